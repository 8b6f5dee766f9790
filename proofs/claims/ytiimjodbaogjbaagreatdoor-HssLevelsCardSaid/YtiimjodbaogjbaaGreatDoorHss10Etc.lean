/-
Contracts of functions, each proved by a walk through its code.
-/
import Derived.Test.YtiimjodbaogjbaaGreatDoorLms4Etc
import Derived.Test.YtiimjodbaogjbaaGreatDoorShakeEtc
import Derived.Test.YtiimjodbaogjbaaGreatDoorDig1Etc
set_option linter.unusedVariables false
set_option linter.unusedSimpArgs false
set_option linter.constructorNameAsVariable false
namespace Go.Proofs.YtiimjodbaogjbaaGreatDoor
open Go Go.Eng
inductive PtRows (M : Mem) : List Value → List PartB → Prop
  | nil : PtRows M [] []
  | cons {x : PartB} {KA SA NA : Option Addr} {kl kc sl_ sc nl nc : Nat} {vs : List Value} {ps : List PartB} : Bytes M KA kl kc x.key → Bytes M SA sl_ sc x.sig → Bytes M NA nl nc x.next → (x.next = [] → NA = none) → PtRows M vs ps → PtRows M (.slice KA kl kc :: .slice SA sl_ sc :: .slice NA nl nc :: vs) (x :: ps)
theorem PtRows.mono {M M' : Mem} (hle : Le M M') {vs : List Value} {ps : List PartB} (h : PtRows M vs ps) : PtRows M' vs ps := by
  induction h with
  | nil => exact .nil
  | cons h1 h2 h3 h4 _ ih => exact .cons (h1.mono hle) (h2.mono hle) (h3.mono hle) h4 ih
theorem PtRows.len {M : Mem} {vs : List Value} {ps : List PartB} (h : PtRows M vs ps) : vs.length = ps.length * 3 := by
  induction h with
  | nil => rfl
  | cons _ _ _ _ _ ih => simp only [List.length_cons, ih]; omega
theorem PtRows.snoc {M : Mem} {vs : List Value} {ps : List PartB} (h : PtRows M vs ps) {x : PartB} {KA SA NA : Option Addr} {kl kc sl_ sc nl nc : Nat} (h1 : Bytes M KA kl kc x.key) (h2 : Bytes M SA sl_ sc x.sig) (h3 : Bytes M NA nl nc x.next) (h4 : x.next = [] → NA = none) :
    PtRows M (vs ++ [.slice KA kl kc, .slice SA sl_ sc, .slice NA nl nc]) (ps ++ [x]) := by
  induction h with
  | nil => exact .cons h1 h2 h3 h4 .nil
  | cons a1 a2 a3 a4 _ ih => exact .cons a1 a2 a3 a4 ih
theorem PtRows.get {M : Mem} {vs : List Value} {ps : List PartB} (h : PtRows M vs ps) : ∀ i x, ps[i]? = some x → ∃ KA SA NA kl kc sl_ sc nl nc, (vs.drop (i * 3)).take 3 = [.slice KA kl kc, .slice SA sl_ sc, .slice NA nl nc] ∧ Bytes M KA kl kc x.key ∧ Bytes M SA sl_ sc x.sig ∧ Bytes M NA nl nc x.next ∧ (x.next = [] → NA = none) := by
  induction h with
  | nil => intro i x hi; simp at hi
  | @cons y KA SA NA kl kc sl_ sc nl nc vs ps h1 h2 h3 h4 _ ih =>
    intro i x hi
    cases i with
    | zero =>
      obtain rfl : y = x := by simpa using hi
      exact ⟨KA, SA, NA, kl, kc, sl_, sc, nl, nc, rfl, h1, h2, h3, h4⟩
    | succ i =>
      have := ih i x (by simpa using hi)
      rwa [show (i + 1) * 3 = i * 3 + 3 by omega]
section
variable {G : World} {M : Mem} {L : Own} {A : Option Addr} {m c : Nat} {bs : List UInt8}
theorem caughtHL1_ret {b c : Nat} {x : Int} {cs : List Value} : ConD Tryz.prog 167 #[.pointer (some ⟨b, 0, none⟩), .pointer (some ⟨c, 0, none⟩)] .returning G M ((c, .cells (List.toArray [.int .i64 x]) 38 (0, 0)) :: (b, .cells cs.toArray 132 (0, 0)) :: L) (fun u' M' L' => u' = .returning ∧ M' = M ∧ L' = (c, .cells (List.toArray [.int .i64 x]) 38 (0, 0)) :: (b, .cells cs.toArray 132 (0, 0)) :: L) := by
  refine enterRec (args := [_, _]) (fn := Tryz.f167) ⟨Tryz.func167, rfl, by kernel_rfl, by kernel_rfl⟩ 15 rfl rfl ?_
  refine x_block ?_
  refine x_seq (x_region ?_)
  refine tl_y rfl (y_eqNilIface rfl rfl) ?_
  refine tl_nil (.then_normal ?_)
  refine x_true rfl (rfl) ?_
  refine x_region ?_
  refine tl_y rfl (y_assign rfl) ?_
  refine tl_nil (.block_normal (.rec_normal (Le.refl _) ⟨rfl, rfl, rfl⟩))
theorem caughtHL1_wrong {b c : Nat} {x e : Int} : ConD Tryz.prog 167 #[.pointer (some ⟨b, 0, none⟩), .pointer (some ⟨c, 0, none⟩)] (.panicking (hwrong e)) G M ((c, .cells (List.toArray [.int .i64 x]) 38 (0, 0)) :: (b, .cells (List.toArray [.slice none 0 0]) 132 (0, 0)) :: L)
    (fun u' M' L' => u' = .panicking [{ v := hwrongv e, recovered := true }] ∧ M' = M ∧ L' = (c, .cells (List.toArray [.int .i64 e]) 38 (0, 0)) :: (b, .cells (List.toArray [.slice none 0 0]) 132 (0, 0)) :: L) := by
  refine enterRec (args := [_, _]) (fn := Tryz.f167) ⟨Tryz.func167, rfl, by kernel_rfl, by kernel_rfl⟩ 15 rfl rfl ?_
  refine x_block ?_
  refine x_seq (x_region ?_)
  refine tl_y rfl (y_eqIfaceNil rfl rfl) ?_
  refine tl_nil (.then_normal ?_)
  refine x_false rfl (rfl) ?_
  refine x_seq (x_region ?_)
  refine tl_y rfl (y_assertOk rfl (by intro _ h; cases h)) ?_
  refine tl_y rfl (y_extract rfl) ?_
  refine tl_y rfl (y_extract rfl) ?_
  refine tl_nil (.then_normal ?_)
  refine x_true rfl (rfl) ?_
  refine x_seq (x_region ?_)
  refine tl_e rfl (e_alloc (fun b7 => ?_))
  refine tl_e rfl (e_store rfl rfl (by rfl) (by rfl) inferInstance inferInstance inferInstance ?_)
  refine tl_nil (.then_normal ?_)
  refine .sub (F' := [(0, _), (1, _), (3, _)]) (.cons rfl (.cons rfl (.cons rfl .nil))) ?_
  refine x_seq (x_region ?_)
  refine tl_y rfl (y_assign rfl) ?_
  refine tl_nil (.then_normal ?_)
  refine x_draw0 4 ((b7, .cells (List.toArray [.int .i64 e]) 164 (0, 0)) :: []) Keeps.mem hmix rfl ?_
  refine to_p 0 rfl (by kernel_rfl) rfl (y_move (v := .slice _ _ _) rfl) ?_
  refine to_p 1 rfl (by kernel_rfl) rfl (y_fieldAddr rfl) ?_
  refine to_y 2 rfl (by kernel_rfl) rfl (y_load rfl rfl (.own inferInstance inferInstance)) ?_
  refine to_e 3 rfl (by kernel_rfl) rfl (e_store rfl rfl (by rfl) (by rfl) inferInstance inferInstance inferInstance ?_)
  refine ⟨⟨(by first | exact Le.refl _ | assumption), Keeps.mem⟩, ?_⟩
  refine to_t 4 rfl (by kernel_rfl) (by kernel_rfl) rfl (e_store rfl rfl (by rfl) (by rfl) inferInstance inferInstance inferInstance ?_)
  refine to_nil (by kernel_rfl) (.block_normal (.dropTo ((c, .cells (List.toArray [.int .i64 e]) 38 (0, 0)) :: (b, .cells (List.toArray [.slice none 0 0]) 132 (0, 0)) :: L) inferInstance (.rec_normal (Le.refl _) ⟨rfl, rfl, rfl⟩)))
theorem caughtHL_spec {wf : FuncId} {first cap : List Value} {K : Option Addr → Nat → Nat → Mem → Prop} {Kp : Int → Prop}
    (hw : ∀ p q, Con Tryz.prog wf (first ++ [] ++ cap).toArray G M (p :: q :: L) (fun v M' L' => L' = p :: q :: L ∧ ∃ A n c, v = .slice A n c ∧ K A n c M') (fun ch M' L' => L' = p :: q :: L ∧ ∃ e, Kp e ∧ ch = hwrong e)) :
    Con Tryz.prog 108 #[.func (.func wf) first.toArray cap.toArray] G M L (fun v M' L' => L' = L ∧ ((∃ A n c, v = .tuple #[.slice A n c, .int .i64 0] ∧ K A n c M') ∨ (∃ e, v = .tuple #[.slice none 0 0, .int .i64 e] ∧ Kp e))) noPanic := by
  refine enterD (args := [_]) (fn := Tryz.f108) ⟨Tryz.func108, rfl, by kernel_rfl, by kernel_rfl⟩ 7 rfl ?_
  refine x_seq (x_region ?_)
  refine tl_e rfl (e_alloc (fun b1 => ?_))
  refine tl_e rfl (e_alloc (fun b2 => ?_))
  refine tl_nil (.then_normal ?_)
  refine x_seq (x_region ?_)
  refine tl_y rfl (y_makeFunc rfl rfl) ?_
  refine tl_e rfl (e_defer rfl rfl rfl ?_)
  refine tl_nil (.then_normal ?_)
  refine x_seq (x_region ?_)
  refine tl_y rfl (y_move (v := .func _ _ _) rfl) ?_
  refine tl_e rfl (e_callv rfl rfl (hw _ _) (by
    rintro _ M1 _ hM1 ⟨rfl, e, hr, rfl⟩
    refine .retD (cap := [_, _]) (args := []) caughtHL1_wrong ?_
    rintro _ M2 _ hM2 ⟨rfl, rfl, rfl⟩
    exact .inl ⟨rfl, _, L, rv2 rfl (rc_cell (by rfl) rfl (.own inferInstance inferInstance)) (rc_cell (by rfl) rfl (.own inferInstance inferInstance)), inferInstance, hM1, rfl, .inr ⟨e, rfl, hr⟩⟩) ?_)
  rintro _ M1 _ hM1 ⟨rfl, A, n, c, rfl, hk⟩
  refine tl_e rfl (e_store rfl rfl (by rfl) (by rfl) inferInstance inferInstance inferInstance ?_)
  refine tl_e rfl (e_store rfl rfl (by rfl) (by rfl) inferInstance inferInstance inferInstance ?_)
  refine tl_nil (.then_normal ?_)
  refine .sub (F' := [(2, _), (3, _)]) (.cons rfl (.cons rfl .nil)) ?_
  refine x_ret (.retD (cap := [_, _]) (args := []) (caughtHL1_ret (cs := [.slice A n c])) ?_)
  rintro _ M2 _ hM2 ⟨rfl, rfl, rfl⟩
  exact .inl ⟨rfl, _, L, rv2 rfl (rc_cell (by rfl) rfl (.own inferInstance inferInstance)) (rc_cell (by rfl) rfl (.own inferInstance inferInstance)), inferInstance, hM1, rfl, .inl ⟨A, n, c, rfl, hk⟩⟩
theorem htake_spec {b : Nat} (h : Bytes M A m c bs) (n : Nat) :
    Con Tryz.prog 207 #[.pointer (some ⟨b, 0, none⟩), .int .i64 (n : Int)] G M ((b, .cells (List.toArray [.slice A m c]) 35 (0, 0)) :: L) (fun v M' L' => L' = (b, .cells (List.toArray [.slice (sl A n c 1) (m - n) (c - n)]) 35 (0, 0)) :: L ∧ n ≤ m ∧ v = .slice (sl A 0 n 1) n n) (fun ch M' L' => L' = (b, .cells (List.toArray [.slice A m c]) 35 (0, 0)) :: L ∧ m < n ∧ ch = hwrong 2) := by
  have hc := h.le
  refine enter (args := [_, _]) (fn := Tryz.f207) ⟨Tryz.func207, rfl, by kernel_rfl, by kernel_rfl⟩ 27 rfl ?_
  refine x_seq (x_region ?_)
  refine tl_y rfl (y_assign rfl) ?_
  refine tl_nil (.then_normal ?_)
  refine x_seq (x_region ?_)
  refine tl_y rfl (y_move (v := .pointer _) rfl) ?_
  refine tl_y rfl (y_nilCheck rfl) ?_
  refine tl_y rfl (y_load rfl rfl (.own inferInstance inferInstance)) ?_
  refine tl_y rfl (y_len rfl) ?_
  refine tl_y rfl (y_move (v := .int _ _) rfl) ?_
  refine tl_y rfl (y_geq rfl rfl) ?_
  refine tl_e rfl (e_call rfl (hmust_spec _ _) (by
    rintro _ _ _ _ ⟨rfl, rfl, ht, rfl⟩
    exact .retA rfl (Le.refl _) ⟨rfl, by simp at ht; omega, rfl⟩) ?_)
  rintro _ _ _ _ ⟨rfl, rfl, ht⟩
  have hn : n ≤ m := by simp at ht; omega
  refine tl_nil (.then_normal ?_)
  refine .sub (F' := [(0, _), (1, _)]) (.cons rfl (.cons rfl .nil)) ?_
  refine x_seq (x_region ?_)
  refine tl_y rfl (y_move (v := .pointer _) rfl) ?_
  refine tl_y rfl (y_nilCheck rfl) ?_
  refine tl_y rfl (y_load rfl rfl (.own inferInstance inferInstance)) ?_
  refine tl_y rfl (y_move (v := .int _ _) rfl) ?_
  refine tl_y rfl (y_move (v := .int _ _) rfl) ?_
  refine tl_y rfl (y_slice3 rfl rfl rfl (by omega) (by omega)) ?_
  refine tl_y rfl (y_assign (v := .slice _ _ _) rfl) ?_
  refine tl_nil (.then_normal ?_)
  refine .sub (F' := [(0, _), (1, _), (5, _)]) (.cons rfl (.cons rfl (.cons rfl .nil))) ?_
  refine x_seq (x_region ?_)
  refine tl_y rfl (y_move (v := .pointer _) rfl) ?_
  refine tl_y rfl (y_move (v := .pointer _) rfl) ?_
  refine tl_y rfl (y_nilCheck rfl) ?_
  refine tl_y rfl (y_load rfl rfl (.own inferInstance inferInstance)) ?_
  refine tl_y rfl (y_move (v := .int _ _) rfl) ?_
  refine tl_y rfl (y_sliceL rfl rfl (by omega)) ?_
  refine tl_y rfl (y_nilCheck rfl) ?_
  refine tl_e rfl (e_store rfl rfl (by rfl) (by rfl) inferInstance inferInstance inferInstance ?_)
  refine tl_nil (.then_normal ?_)
  refine .sub (F' := [(5, _)]) (.cons rfl .nil) ?_
  refine x_seq (x_region ?_)
  refine tl_y rfl (y_move (v := .slice _ _ _) rfl) ?_
  refine tl_y rfl (y_assign (v := .slice _ _ _) rfl) ?_
  refine tl_nil (.then_normal ?_)
  refine x_ret (ret1 rfl rfl (Le.refl _) ⟨rfl, hn, rfl⟩)
theorem hcount_spec {b : Nat} (h : Bytes M A m c bs) :
    Con Tryz.prog 164 #[.pointer (some ⟨b, 0, none⟩)] G M ((b, .cells (List.toArray [.slice A m c]) 35 (0, 0)) :: L) (fun v M' L' => L' = (b, .cells (List.toArray [.slice (sl A 4 c 1) (m - 4) (c - 4)]) 35 (0, 0)) :: L ∧ 4 ≤ m ∧ v = .int .i64 ((getB (bs.take 4) : Nat) : Int)) (fun ch M' L' => L' = (b, .cells (List.toArray [.slice A m c]) 35 (0, 0)) :: L ∧ m < 4 ∧ ch = hwrong 2) := by
  have hc := h.le
  have hm := h.size
  refine enter (args := [_]) (fn := Tryz.f164) ⟨Tryz.func164, rfl, by kernel_rfl, by kernel_rfl⟩ 13 rfl ?_
  refine x_seq (x_region ?_)
  refine tl_y rfl (y_assign rfl) ?_
  refine tl_nil (.then_normal ?_)
  refine x_seq (x_region ?_)
  refine tl_y rfl (y_move (v := .pointer _) rfl) ?_
  refine tl_e rfl (e_call rfl (htake_spec h 4) (by
    rintro _ M1 _ hM1 ⟨rfl, hlt, rfl⟩
    exact .retA rfl hM1 ⟨rfl, hlt, rfl⟩) ?_)
  rintro _ M1 _ hM1 ⟨rfl, h4, rfl⟩
  have hgl := getB_lt (bs.take 4)
  rw [List.length_take, Nat.min_eq_left (by omega)] at hgl
  refine tl_e rfl (e_call' rfl (Get8_spec (Bytes.take3 (h.mono hM1) 4 4 h4 (Nat.le_refl _) (by omega)) (by omega)) ?_)
  rintro _ _ _ _ ⟨rfl, rfl, x, hx, rfl⟩
  refine tl_y rfl (y_move (v := .tuple _) rfl) ?_
  refine tl_y rfl (y_extract rfl) ?_
  refine tl_y rfl (y_extract rfl) ?_
  refine tl_y rfl (y_assign (v := .int _ _) rfl) ?_
  refine tl_y rfl (y_assign (v := .bool _) rfl) ?_
  refine tl_nil (.then_normal ?_)
  refine .sub (F' := [(3, _)]) (.cons rfl .nil) ?_
  refine x_seq (x_region ?_)
  refine tl_y rfl (y_move (v := .int _ _) rfl) ?_
  refine tl_y rfl (y_convE (b := ((getB (bs.take 4) : Nat) : Int)) rfl (by rw [← hx]; exact IntWalk.i64_in _ (by omega))) ?_
  refine tl_y rfl (y_assign (v := .int _ _) rfl) ?_
  refine tl_nil (.then_normal ?_)
  refine x_ret (ret1 rfl rfl hM1 ⟨rfl, h4, rfl⟩)
theorem hkey_spec (hg : LmG M) {b : Nat} (h : Bytes M A m c bs) :
    Con Tryz.prog 165 #[.pointer (some ⟨b, 0, none⟩)] G M ((b, .cells (List.toArray [.slice A m c]) 35 (0, 0)) :: L) (fun v M' L' => keyE bs = 0 ∧ ∃ A' m' c' A2 n2 c2, L' = (b, .cells (List.toArray [.slice A' m' c']) 35 (0, 0)) :: L ∧ v = .slice A2 n2 c2 ∧ Bytes M' A2 n2 c2 (keyT bs) ∧ Bytes M' A' m' c' (keyD bs)) (fun ch M' L' => L' = (b, .cells (List.toArray [.slice A m c]) 35 (0, 0)) :: L ∧ keyE bs ≠ 0 ∧ ch = hwrong (keyE bs)) := by
  have hc := h.le
  have hm := h.size
  refine enter (args := [_]) (fn := Tryz.f165) ⟨Tryz.func165, rfl, by kernel_rfl, by kernel_rfl⟩ 50 rfl ?_
  refine x_seq (x_region ?_)
  refine tl_y rfl (y_assign rfl) ?_
  refine tl_nil (.then_normal ?_)
  refine x_seq (x_region ?_)
  refine tl_y rfl (y_move (v := .pointer _) rfl) ?_
  refine tl_y rfl (y_nilCheck rfl) ?_
  refine tl_y rfl (y_load rfl rfl (.own inferInstance inferInstance)) ?_
  refine tl_y rfl (y_len rfl) ?_
  refine tl_y rfl (y_geq rfl rfl) ?_
  refine tl_e rfl (e_call rfl (hmust_spec _ _) (by
    rintro _ _ _ _ ⟨rfl, rfl, ht, rfl⟩
    have e : keyE bs = 2 := by rw [keyE, if_pos (by simp at ht; omega)]
    exact .retA rfl (Le.refl _) ⟨rfl, by rw [e]; decide, by rw [e]⟩) ?_)
  rintro _ _ _ _ ⟨rfl, rfl, ht⟩
  have h8 : 8 ≤ m := by simp at ht; omega
  have hs4 : Bytes M (sl A 4 c 1) 4 (c - 4) ((bs.drop 4).take 4) := Bytes.sub h 4 8 (by omega) h8
  refine tl_nil (.then_normal ?_)
  refine .sub (F' := [(0, _)]) (.cons rfl .nil) ?_
  refine x_seq (x_region ?_)
  refine tl_y rfl (y_build rfl) ?_
  refine tl_e rfl (e_alloc (fun b1 => ?_))
  refine tl_e rfl (e_store rfl rfl (by rfl) (by rfl) inferInstance inferInstance inferInstance ?_)
  refine tl_nil (.then_normal ?_)
  refine x_seq (x_region ?_)
  refine tl_y rfl (y_move (v := .pointer _) rfl) ?_
  refine tl_y rfl (y_nilCheck rfl) ?_
  refine tl_y rfl (y_load rfl rfl (.own inferInstance inferInstance)) ?_
  refine tl_y rfl (y_sliceH rfl rfl (by omega) (by omega)) ?_
  refine tl_e rfl (e_call' rfl (Get8_spec (Bytes.take h 4 (by omega)) (by omega)) ?_)
  rintro _ _ _ _ ⟨rfl, rfl, x, hx, rfl⟩
  have hgl := getB_lt (bs.take 4)
  rw [List.length_take, Nat.min_eq_left (by omega)] at hgl
  have hcv : ((pairC bs).t.toNat : Int) = (x.toNat : Int) := by rw [pairC, UInt32.toNat_ofNat', hx, Nat.mod_eq_of_lt (by omega)]
  refine tl_y rfl (y_move (v := .tuple _) rfl) ?_
  refine tl_y rfl (y_extract rfl) ?_
  refine tl_y rfl (y_extract rfl) ?_
  refine tl_y rfl (y_assign (v := .int _ _) rfl) ?_
  refine tl_y rfl (y_assign (v := .bool _) rfl) ?_
  refine tl_nil (.then_normal ?_)
  refine .sub (F' := [(0, _), (3, _), (4, _)]) (.cons rfl (.cons rfl (.cons rfl .nil))) ?_
  refine x_seq (x_region ?_)
  refine tl_y rfl (y_move (v := .pointer _) rfl) ?_
  refine tl_y rfl (y_nilCheck rfl) ?_
  refine tl_y rfl (y_load rfl rfl (.own inferInstance inferInstance)) ?_
  refine tl_y rfl (y_sliceLH rfl rfl rfl (by omega) (by omega)) ?_
  refine tl_e rfl (e_call' rfl (Get8_spec hs4 (by omega)) ?_)
  rintro _ _ _ _ ⟨rfl, rfl, y, hy, rfl⟩
  have hgl2 := getB_lt ((bs.drop 4).take 4)
  rw [List.length_take, List.length_drop, Nat.min_eq_left (by omega)] at hgl2
  have hcv2 : ((pairC bs).o.toNat : Int) = (y.toNat : Int) := by rw [pairC, UInt32.toNat_ofNat', hy, Nat.mod_eq_of_lt (by omega)]
  refine tl_y rfl (y_move (v := .tuple _) rfl) ?_
  refine tl_y rfl (y_extract rfl) ?_
  refine tl_y rfl (y_extract rfl) ?_
  refine tl_y rfl (y_assign (v := .int _ _) rfl) ?_
  refine tl_y rfl (y_assign (v := .bool _) rfl) ?_
  refine tl_nil (.then_normal ?_)
  refine .sub (F' := [(0, _), (3, _), (4, _), (6, _)]) (.cons rfl (.cons rfl (.cons rfl (.cons rfl .nil)))) ?_
  refine x_seq (x_region ?_)
  refine tl_y rfl (y_move (v := .int _ _) rfl) ?_
  refine tl_y rfl (y_convE (b := ((pairC bs).t.toNat : Int)) rfl (by rw [wrapU32, hcv]; omega)) ?_
  refine tl_y rfl (y_move (v := .int _ _) rfl) ?_
  refine tl_y rfl (y_convE (b := ((pairC bs).o.toNat : Int)) rfl (by rw [wrapU32, hcv2]; omega)) ?_
  refine tl_y rfl (y_fieldAddr rfl) ?_
  refine tl_e rfl (e_store rfl rfl (by rfl) (by rfl) inferInstance inferInstance inferInstance ?_)
  refine tl_y rfl (y_fieldAddr rfl) ?_
  refine tl_e rfl (e_store rfl rfl (by rfl) (by rfl) inferInstance inferInstance inferInstance ?_)
  refine tl_nil (.then_normal ?_)
  refine .sub (F' := [(0, _), (3, _)]) (.cons rfl (.cons rfl .nil)) ?_
  refine x_seq (x_region ?_)
  refine tl_y rfl (y_loadAgg rfl rfl (.own inferInstance inferInstance)) ?_
  refine tl_e rfl (e_call' rfl (lMay_spec hg.hs (pairC bs)) ?_)
  rintro _ M1 _ hM1 ⟨rfl, rfl⟩
  have hd := hM1
  refine tl_e rfl (e_call rfl (hmust_spec _ _) (by
    rintro _ _ _ _ ⟨rfl, rfl, ht, rfl⟩
    have e : keyE bs = 4 := by rw [keyE, if_neg (by omega), if_pos (by simpa using ht)]
    exact TP.dropTo ((b, .cells (List.toArray [.slice A m c]) 35 (0, 0)) :: L) inferInstance (.retA rfl hd ⟨rfl, by rw [e]; decide, by rw [e]⟩)) ?_)
  rintro _ _ _ _ ⟨rfl, rfl, ht⟩
  have hok : okP (pairC bs) := by simpa using ht
  refine tl_nil (.then_normal ?_)
  refine x_seq (x_region ?_)
  refine tl_y rfl (y_loadAgg rfl rfl (.own inferInstance inferInstance)) ?_
  refine tl_e rfl (e_call' rfl (Sizes_spec (hg.mono hd) (pairC bs)) ?_)
  rintro _ M2 _ hM2 ⟨rfl, rfl⟩
  replace hd := hd.trans hM2
  rw [show szP (pairC bs) = pubN (pairC bs) by rw [szP, if_pos hok]]
  refine tl_y rfl (y_move (v := .tuple _) rfl) ?_
  refine tl_y rfl (y_extract rfl) ?_
  refine tl_y rfl (y_extract rfl) ?_
  refine tl_y rfl (y_assign (v := .int _ _) rfl) ?_
  refine tl_y rfl (y_assign (v := .int _ _) rfl) ?_
  refine tl_nil (.then_normal ?_)
  refine .sub (F' := [(0, _), (8, _)]) (.cons rfl (.cons rfl .nil)) ?_
  refine x_seq (x_region ?_)
  refine tl_y rfl (y_move (v := .pointer _) rfl) ?_
  refine tl_y rfl (y_move (v := .int _ _) rfl) ?_
  refine .dropTo ((b, .cells (List.toArray [.slice A m c]) 35 (0, 0)) :: L) inferInstance ?_
  refine tl_e rfl (e_call rfl (htake_spec (h.mono hd) (pubN (pairC bs))) (by
    rintro _ M3 _ hM3 ⟨rfl, hlt, rfl⟩
    have e : keyE bs = 2 := by rw [keyE, if_neg (by omega), if_neg (fun h => h hok), if_pos (by omega)]
    exact .retA rfl (hd.trans hM3) ⟨rfl, by rw [e]; decide, by rw [e]⟩) ?_)
  rintro _ M3 _ hM3 ⟨rfl, hle, rfl⟩
  replace hd := hd.trans hM3
  refine tl_y rfl (y_assign (v := .slice _ _ _) rfl) ?_
  refine tl_nil (.then_normal ?_)
  refine .sub (F' := [(2, _)]) (.cons rfl .nil) ?_
  refine x_ret (ret1 rfl rfl hd ⟨by rw [keyE, if_neg (by omega), if_neg (fun h => h hok), if_neg (by omega)], _, _, _, _, _, _, rfl, rfl, Bytes.take3 (h.mono hd) _ _ hle (Nat.le_refl _) (by omega), Bytes.drop (h.mono hd) _ hle⟩)
theorem hsigned_spec (hg : LmG M) {b : Nat} (h : Bytes M A m c bs) (hmb : m ≤ 1000000000000) {KA : Option Addr} {kl kc : Nat} {k : List UInt8} (hk : Bytes M KA kl kc k) (hkb : kl ≤ 1000000000000) (hk0 : pairE k = 0) :
    Con Tryz.prog 166 #[.slice KA kl kc, .pointer (some ⟨b, 0, none⟩)] G M ((b, .cells (List.toArray [.slice A m c]) 35 (0, 0)) :: L) (fun v M' L' => sigN (pairC k) ≤ m ∧ ∃ A' m' c' A2 n2 c2, L' = (b, .cells (List.toArray [.slice A' m' c']) 35 (0, 0)) :: L ∧ v = .slice A2 n2 c2 ∧ Bytes M' A2 n2 c2 (sgT k bs) ∧ Bytes M' A' m' c' (sgD k bs)) (fun ch M' L' => L' = (b, .cells (List.toArray [.slice A m c]) 35 (0, 0)) :: L ∧ m < sigN (pairC k) ∧ ch = hwrong 2) := by
  obtain ⟨h8, hok, hlen⟩ := pairE_zero hk0
  have hx0 : pairX k = pairC k := by rw [pairX, if_pos hk0]
  refine enter (args := [_, _]) (fn := Tryz.f166) ⟨Tryz.func166, rfl, by kernel_rfl, by kernel_rfl⟩ 31 rfl ?_
  refine x_seq (x_region ?_)
  refine tl_y rfl (y_assign rfl) ?_
  refine tl_nil (.then_normal ?_)
  refine x_seq (x_region ?_)
  refine tl_y rfl (y_move (v := .slice _ _ _) rfl) ?_
  refine tl_e rfl (e_call' rfl (Pair_spec hg hk hkb) ?_)
  rintro _ M1 _ hM1 ⟨rfl, rfl⟩
  have hd := hM1
  rw [hx0, hk0]
  refine tl_y rfl (y_move (v := .tuple _) rfl) ?_
  refine tl_y rfl (y_extract rfl) ?_
  refine tl_y rfl (y_extract rfl) ?_
  refine tl_e rfl (e_alloc (fun b1 => ?_))
  refine tl_e rfl (e_store rfl rfl (by rfl) (by rfl) inferInstance inferInstance inferInstance ?_)
  refine tl_y rfl (y_assign (v := .int _ _) rfl) ?_
  refine tl_nil (.then_normal ?_)
  refine .sub (F' := [(1, _), (5, _), (6, _)]) (.cons rfl (.cons rfl (.cons rfl .nil))) ?_
  refine x_seq (x_region ?_)
  refine tl_y rfl (y_move (v := .int _ _) rfl) ?_
  refine tl_e rfl (e_call rfl (hwell_spec _) (by
    rintro _ _ _ _ ⟨rfl, rfl, hne, rfl⟩
    exact absurd rfl hne) ?_)
  rintro _ _ _ _ ⟨rfl, rfl, _⟩
  refine tl_nil (.then_normal ?_)
  refine x_seq ?_
  have he : Le M1 M1 := Le.refl _
  refine x_draw 12 hmix rfl ?_
  refine to_y 0 rfl (by kernel_rfl) rfl (y_loadAgg rfl rfl (.own inferInstance inferInstance)) ?_
  refine to_p 1 rfl (by kernel_rfl) rfl (y_move (v := .pointer _) rfl) ?_
  refine to_p 2 rfl (by kernel_rfl) rfl (y_nilCheck rfl) ?_
  refine to_y 3 rfl (by kernel_rfl) rfl (y_load rfl rfl (.own inferInstance inferInstance)) ?_
  refine to_e 4 rfl (by kernel_rfl) rfl (e_call' rfl (Take_spec (hg.mono hd) (pairC k) (h.mono hd) hmb) ?_)
  rintro _ M2 _ hM2 ⟨rfl, A2, n2, c2, A3, n3, c3, rfl, hA2, hA3⟩
  replace hd := hd.trans hM2
  replace he := he.trans hM2
  refine ⟨⟨(by first | exact Le.refl _ | assumption), Keeps.mem⟩, ?_⟩
  refine to_p 5 rfl (by kernel_rfl) rfl (y_move (v := .tuple _) rfl) ?_
  refine to_p 6 rfl (by kernel_rfl) rfl (y_extract rfl) ?_
  refine to_p 7 rfl (by kernel_rfl) rfl (y_extract rfl) ?_
  refine to_p 8 rfl (by kernel_rfl) rfl (y_extract rfl) ?_
  refine to_p 9 rfl (by kernel_rfl) rfl (y_assign (v := .slice _ _ _) rfl) ?_
  refine to_p 10 rfl (by kernel_rfl) rfl (y_assign (v := .slice _ _ _) rfl) ?_
  refine to_p 11 rfl (by kernel_rfl) rfl (y_assign (v := .int _ _) rfl) ?_
  refine to_nil (by kernel_rfl) (.then_normal ?_)
  refine .sub (F' := [(1, _), (6, _), (7, _), (8, _)]) (.cons rfl (.cons rfl (.cons rfl (.cons rfl .nil)))) ?_
  refine x_seq (x_region ?_)
  refine tl_y rfl (y_move (v := .int _ _) rfl) ?_
  refine tl_e rfl (e_call rfl (hwell_spec _) (by
    rintro _ _ _ _ ⟨rfl, rfl, hne, rfl⟩
    have hlt : m < sigN (pairC k) := Nat.lt_of_not_le (fun hle => hne (by rw [takeE, if_neg (fun h => h hok), if_neg (by omega)]))
    exact TP.dropTo ((b, .cells (List.toArray [.slice A m c]) 35 (0, 0)) :: L) inferInstance (.retA rfl hd ⟨rfl, hlt, by rw [takeE, if_neg (fun h => h hok), if_pos hlt]⟩)) ?_)
  rintro _ _ _ _ ⟨rfl, rfl, h0⟩
  rw [if_pos h0] at hA2 hA3
  have hle : sigN (pairC k) ≤ m := Nat.le_of_not_lt (fun hlt => by rw [takeE, if_neg (fun h => h hok), if_pos hlt] at h0; cases h0)
  refine tl_nil (.then_normal ?_)
  refine x_seq (x_region ?_)
  refine tl_y rfl (y_move (v := .pointer _) rfl) ?_
  refine tl_y rfl (y_move (v := .slice _ _ _) rfl) ?_
  refine tl_y rfl (y_nilCheck rfl) ?_
  refine tl_e rfl (e_store rfl rfl (by rfl) (by rfl) inferInstance inferInstance inferInstance ?_)
  refine tl_nil (.then_normal ?_)
  refine .sub (F' := [(7, _)]) (.cons rfl .nil) ?_
  refine x_seq (x_region ?_)
  refine tl_y rfl (y_move (v := .slice _ _ _) rfl) ?_
  refine tl_y rfl (y_assign (v := .slice _ _ _) rfl) ?_
  refine tl_nil (.then_normal ?_)
  refine x_ret (.dropTo ((b, .cells (List.toArray [.slice A3 n3 c3]) 35 (0, 0)) :: L) inferInstance (ret1 rfl rfl hd ⟨hle, _, _, _, _, _, _, rfl, rfl, hA2, hA3⟩))
end
end Go.Proofs.YtiimjodbaogjbaaGreatDoor
set_option linter.unusedVariables false
set_option linter.unusedSimpArgs false
set_option linter.constructorNameAsVariable false
namespace Go.Proofs.YtiimjodbaogjbaaGreatDoor
open Go Go.Eng
theorem keyT_pair {bs : List UInt8} (h : keyE bs = 0) : pairE (keyT bs) = 0 ∧ pairC (keyT bs) = pairC bs ∧ (keyT bs).length = pubN (pairC bs) ∧ 48 ≤ pubN (pairC bs) ∧ pubN (pairC bs) ≤ 56 := by
  obtain ⟨h8, hok, hle⟩ := keyE_zero h
  obtain ⟨n, w, p, H, hx⟩ := okP_facts hok
  obtain ⟨z1, _, _, _, _⟩ := hx.sizes
  have hn := hx.o.n32
  have hl : (keyT bs).length = pubN (pairC bs) := by rw [keyT, List.length_take]; omega
  have hp : pairC (keyT bs) = pairC bs := by
    rw [pairC, pairC, keyT, List.drop_take, List.take_take, List.take_take, Nat.min_eq_left (by omega), Nat.min_eq_left (by omega)]
  refine ⟨?_, hp, hl, by omega, by omega⟩
  rw [pairE, if_neg (by omega), hp, if_neg (fun h' => h' hok), if_neg (by omega)]
theorem parse_succ {j : Nat} {k b : List UInt8} (h1 : sigN (pairC k) ≤ b.length) (h2 : keyE (sgD k b) = 0) :
    (parse (j + 1) k b).1 = (parse j (keyT (sgD k b)) (keyD (sgD k b))).1 ∧ ((parse (j + 1) k b).1 = 0 → (parse (j + 1) k b).2 = ⟨k, sgT k b, keyT (sgD k b)⟩ :: (parse j (keyT (sgD k b)) (keyD (sgD k b))).2) := by
  rw [parse, if_neg (by omega), if_neg (fun h => h h2)]
  by_cases h3 : (parse j (keyT (sgD k b)) (keyD (sgD k b))).1 = 0
  · rw [if_neg (fun h => h h3)]; exact ⟨h3.symm, fun _ => rfl⟩
  · rw [if_pos h3]; exact ⟨rfl, fun h => absurd h h3⟩
theorem pairE_len {k : List UInt8} (h : pairE k = 0) : k.length ≤ 56 := by
  obtain ⟨h8, hok, hlen⟩ := pairE_zero h
  obtain ⟨n, w, p, H, hx⟩ := okP_facts hok
  obtain ⟨z1, _, _, _, _⟩ := hx.sizes
  have := hx.o.n32
  omega
theorem readP_eq {pub sig : List UInt8} (h1 : 4 ≤ pub.length) (h2 : keyE (pub.drop 4) = 0) (h3 : (pub.drop 4).length = pubN (pairC (pub.drop 4))) (h4 : 1 ≤ getB (pub.take 4) ∧ getB (pub.take 4) ≤ 8) (h5 : 4 ≤ sig.length) (h6 : getB (sig.take 4) = getB (pub.take 4) - 1) :
    readP pub sig = parse (getB (pub.take 4) - 1) (pub.drop 4) (sig.drop 4) := by
  rw [readP, if_neg (by omega), if_neg (fun h => h h2), if_neg (fun h => h h3), if_neg (by omega), if_neg (by omega), if_neg (fun h => h h6)]
section
variable {G : World} {M : Mem} {L : Own} {PA TA A : Option Addr} {pl pc tl tc m c : Nat} {pub text sig : List UInt8}
abbrev bx (b : Nat) (A : Option Addr) (m c : Nat) : Nat × Obj := (b, .cells (List.toArray [.slice A m c]) 35 (0, 0))
theorem parts_spec (hg : LmG M) (hpub : Bytes M PA pl pc pub) (hsig : Bytes M A m c sig) (hpb : pl ≤ 1000000000000) (hmb : m ≤ 1000000000000) :
    Con Tryz.prog 105 #[.slice PA pl pc, .slice A m c] G M L (fun v M' L' => L' = L ∧ ∃ A' n' c' vs, v = .slice A' n' c' ∧ (readP pub sig).1 = 0 ∧ n' = (readP pub sig).2.length ∧ Row M' 3 A' n' c' vs ∧ PtRows M' vs (readP pub sig).2) (fun ch M' L' => L' = L ∧ ∃ e, ((readP pub sig).1 ≠ 0 ∧ e = (readP pub sig).1) ∧ ch = hwrong e) := by
  have hps := hpub.size
  have hms := hsig.size
  have hpc := hpub.le
  have hmc := hsig.le
  refine enter (args := [_, _]) (fn := Tryz.f105) ⟨Tryz.func105, rfl, by kernel_rfl, by kernel_rfl⟩ 56 rfl ?_
  refine x_seq (x_region ?_)
  refine tl_e rfl (e_box rfl (fun b1 => ?_))
  refine tl_e rfl (e_box rfl (fun b2 => ?_))
  refine tl_y rfl (y_assign rfl) ?_
  refine tl_nil (.then_normal ?_)
  refine x_seq (x_region ?_)
  refine .bring b1 inferInstance ?_
  refine tl_e rfl (e_call rfl (hcount_spec hpub) (by
    rintro _ M1 _ hM1 ⟨rfl, hlt, rfl⟩
    have e : (readP pub sig).1 = 2 := by rw [readP, if_pos (by omega)]
    exact TP.dropTo L inferInstance (.retA rfl hM1 ⟨rfl, _, ⟨by rw [e]; decide, rfl⟩, by rw [e]⟩)) ?_)
  rintro _ M1 _ hM1 ⟨rfl, h4, rfl⟩
  have hd := hM1
  have hp4 : Bytes M1 (sl PA 4 pc 1) (pl - 4) (pc - 4) (pub.drop 4) := Bytes.drop (hpub.mono hd) 4 h4
  have hgl := getB_lt (pub.take 4)
  rw [List.length_take, Nat.min_eq_left (by omega)] at hgl
  obtain ⟨lv, hlv⟩ : ∃ lv, lv = getB (pub.take 4) := ⟨_, rfl⟩
  rw [← hlv] at hgl ⊢
  obtain ⟨p4, hp4e⟩ : ∃ p4, p4 = pub.drop 4 := ⟨_, rfl⟩
  rw [← hp4e] at hp4
  have hp4l : p4.length = pl - 4 := by rw [hp4e, List.length_drop]; omega
  refine tl_y rfl (y_assign (v := .int _ _) rfl) ?_
  refine tl_nil (.then_normal ?_)
  refine .sub (F' := [(2, _), (3, _), (5, _)]) (.cons rfl (.cons rfl (.cons rfl .nil))) ?_
  refine x_seq (x_region ?_)
  refine tl_e rfl (e_call rfl (hkey_spec (hg.mono hd) hp4) (by
    rintro _ M2 _ hM2 ⟨rfl, hno, rfl⟩
    have e : (readP pub sig).1 = keyE p4 := by rw [readP, if_neg (by omega), ← hp4e, if_pos hno]
    exact TP.dropTo L inferInstance (.retA rfl (hd.trans hM2) ⟨rfl, _, ⟨by rw [e]; exact hno, rfl⟩, by rw [e]⟩)) ?_)
  rintro _ M2 _ hM2 ⟨hk0, A3, m3, c3, A2, n2, c2, rfl, rfl, hkT, hkD⟩
  replace hd := hd.trans hM2
  obtain ⟨kt1, kt2, kt3, kt4, kt5⟩ := keyT_pair hk0
  have hm3 := hkD.size
  rw [keyD, List.length_drop] at hm3
  refine tl_y rfl (y_assign (v := .slice _ _ _) rfl) ?_
  refine tl_nil (.then_normal ?_)
  refine x_seq (x_region ?_)
  refine tl_y rfl (y_load rfl rfl (.own inferInstance inferInstance)) ?_
  refine tl_y rfl (y_len rfl) ?_
  refine tl_y rfl (y_eql rfl rfl) ?_
  refine tl_e rfl (e_call rfl (hmust_spec _ _) (by
    rintro _ _ _ _ ⟨rfl, rfl, ht, rfl⟩
    have e : (readP pub sig).1 = 5 := by rw [readP, if_neg (by omega), ← hp4e, if_neg (fun h => h hk0), if_pos (by simp at ht; omega)]
    exact TP.dropTo L inferInstance (.retA rfl hd ⟨rfl, _, ⟨by rw [e]; decide, rfl⟩, by rw [e]⟩)) ?_)
  rintro _ _ _ _ ⟨rfl, rfl, ht⟩
  have hpl : p4.length = pubN (pairC p4) := by
    have := (keyE_zero hk0).2.2
    simp at ht; omega
  have hkp : keyT p4 = p4 := by rw [keyT]; exact List.take_of_length_le (by omega)
  rw [hkp] at kt1 kt2 kt3 hkT
  refine tl_nil (.then_normal ?_)
  refine .sub (F' := [(3, _), (5, _), (6, _)]) (.cons rfl (.cons rfl (.cons rfl .nil))) ?_
  refine x_join (I := fun F D M3 L3 => (1 ≤ lv ∧ lv ≤ 8) ∧ F = [(3, .pointer (some ⟨b2, 0, none⟩)), (5, .int .i64 ((lv : Nat) : Int)), (6, .slice A2 n2 c2)] ∧ D = [] ∧ M2 = M3 ∧ bx b1 A3 m3 c3 :: bx b2 A m c :: L = L3) ?_ (fun Jq4 => ?_)
  ·
    rintro _ _ _ _ ⟨h18, rfl, rfl, rfl, rfl⟩  -- slots [3, 5, 6]
    refine x_seq (x_region ?_)
    refine .bring b2 inferInstance ?_
    refine tl_e rfl (e_call rfl (hcount_spec (hsig.mono hd)) (by
      rintro _ M4 _ hM4 ⟨rfl, hlt, rfl⟩
      have e : (readP pub sig).1 = 2 := by rw [readP, if_neg (by omega), ← hp4e, if_neg (fun h => h hk0), if_neg (fun h => h hpl), if_neg (by omega), if_pos (by omega)]
      exact TP.dropTo L inferInstance (.retA rfl (hd.trans hM4) ⟨rfl, _, ⟨by rw [e]; decide, rfl⟩, by rw [e]⟩)) ?_)
    rintro _ M4 _ hM4 ⟨rfl, hs4, rfl⟩
    replace hd := hd.trans hM4
    replace hkT := hkT.mono hM4
    have hs4b : Bytes M4 (sl A 4 c 1) (m - 4) (c - 4) (sig.drop 4) := Bytes.drop (hsig.mono hd) 4 hs4
    have hgl2 := getB_lt (sig.take 4)
    rw [List.length_take, Nat.min_eq_left (by omega)] at hgl2
    refine tl_y rfl (y_move (v := .int _ _) rfl) ?_
    refine tl_y rfl (y_subI rfl rfl (by omega)) ?_
    refine tl_y rfl (y_eql rfl rfl) ?_
    refine tl_e rfl (e_call rfl (hmust_spec _ _) (by
      rintro _ _ _ _ ⟨rfl, rfl, ht2, rfl⟩
      have e : (readP pub sig).1 = 3 := by rw [readP, if_neg (by omega), ← hp4e, if_neg (fun h => h hk0), if_neg (fun h => h hpl), if_neg (by omega), if_neg (by omega), if_pos (by simp at ht2; omega)]
      exact TP.dropTo L inferInstance (.retA rfl hd ⟨rfl, _, ⟨by rw [e]; decide, rfl⟩, by rw [e]⟩)) ?_)
    rintro _ _ _ _ ⟨rfl, rfl, ht2⟩
    have hR : readP pub sig = parse (lv - 1) p4 (sig.drop 4) := by
      rw [readP_eq (by omega) (by rw [← hp4e]; exact hk0) (by rw [← hp4e]; exact hpl) (by omega) (by omega) (by simp at ht2; omega), ← hlv, ← hp4e]
    refine tl_nil (.then_normal ?_)
    refine .sub (F' := [(3, _), (5, _), (6, _)]) (.cons rfl (.cons rfl (.cons rfl .nil))) ?_
    refine x_seq (x_region ?_)
    refine tl_y rfl (y_assign rfl) ?_
    refine tl_nil (.then_normal ?_)
    refine x_seq (x_seq (x_region ?_))
    refine tl_y rfl (y_move (v := .int _ _) rfl) ?_
    refine tl_y rfl (y_subI rfl rfl (by omega)) ?_
    rw [show ((lv : Nat) : Int) - 1 = ((lv - 1 : Nat) : Int) by omega]
    refine tl_y rfl (y_move rfl) ?_
    refine tl_nil (.then_normal ?_)
    refine x_block ?_
    refine x_loop (I := fun m' F D M5 L5 => ∃ (i : Nat) (KA : Option Addr) (kl kc : Nat) (k : List UInt8) (BA : Option Addr) (bl bc : Nat) (b : List UInt8) (AO : Option Addr) (cO : Nat) (E : Own) (vs : List Value) (done : List PartB), m' = lv - 1 - i ∧ i ≤ lv - 1 ∧ Le M4 M5 ∧ Bytes M5 KA kl kc k ∧ Bytes M5 BA bl bc b ∧ bl ≤ 1000000000000 ∧ pairE k = 0 ∧ OwnRow 135 3 AO i cO vs E ∧ PtRows M5 vs done ∧ done.length = i ∧ (readP pub sig).1 = (parse (lv - 1 - i) k b).1 ∧ ((readP pub sig).1 = 0 → (readP pub sig).2 = done ++ (parse (lv - 1 - i) k b).2) ∧ D = [] ∧ L5 = E ++ (bx b2 BA bl bc :: bx b1 A3 m3 c3 :: L) ∧ F = [(3, .pointer (some ⟨b2, 0, none⟩)), (6, .slice KA kl kc), (7, .slice AO i cO), (28, .int .i64 ((lv - 1 : Nat) : Int)), (29, .int .i64 i)]) (lv - 1) (F0 := [(3, _), (6, _), (7, _), (28, _), (29, _)]) ?_ (.cons rfl (.cons rfl (.cons rfl (.cons rfl (.cons rfl .nil))))) ?_  -- slots [3, 6, 7, 28, 29], written [6, 7, 29]
    · exact ⟨0, A2, n2, c2, p4, _, _, _, sig.drop 4, none, 0, [], [], [], rfl, by omega, Le.refl _, hkT, hs4b, by omega, kt1, .nil, .nil, rfl, by rw [hR, Nat.sub_zero], fun _ => by rw [hR, Nat.sub_zero, List.nil_append], rfl, rfl, rfl⟩
    rintro m _ _ M5 _ ⟨i, KA, kl, kc, k, BA, bl, bc, b, AO, cO, E, vs, done, rfl, hi, hM5, hkk, hbb, hbl, hpk, hE, hPt, hdl, hr1, hr2, rfl, rfl, rfl⟩
    have hkl := hkk.size
    have hkl2 := pairE_len hpk
    have hbs := hbb.size
    have hd5 := hd.trans hM5
    refine x_seq (x_region ?_)
    refine tl_y rfl (y_lss rfl rfl) ?_
    refine tl_nil (.then_normal ?_)
    refine x_seq ?_
    refine x_cond rfl (fun hc1 => ?_) (fun hc1 => ?_)
    ·
      obtain ⟨j, hj⟩ : ∃ j, lv - 1 - i = j + 1 := ⟨lv - 1 - i - 1, by omega⟩
      rw [hj] at hr1 hr2
      refine .bring b2 inferInstance ?_
      refine x_skip (.then_normal ?_)
      refine x_seq ?_
      refine x_block ?_
      refine x_seq (x_region ?_)
      refine tl_y rfl (y_move (v := .slice _ _ _) rfl) ?_
      refine tl_y rfl (y_move (v := .slice _ _ _) rfl) ?_
      refine tl_e rfl (e_call rfl (hsigned_spec (hg.mono hd5) hbb hbl hkk (by omega) hpk) (by
        rintro _ M6 _ hM6 ⟨rfl, hlt, rfl⟩
        have e : (readP pub sig).1 = 2 := by rw [hr1, parse, if_pos (by omega)]
        exact TP.dropTo L inferInstance (.retA rfl (hd5.trans hM6) ⟨rfl, _, ⟨by rw [e]; decide, rfl⟩, by rw [e]⟩)) ?_)
      rintro _ M6 _ hM6 ⟨hsn, A6, m6, c6, A7, n7, c7, rfl, rfl, hsT, hsD⟩
      have hd6 := hd5.trans hM6
      have hm6 := hsD.size
      rw [sgD, List.length_drop] at hm6
      refine tl_y rfl (y_build rfl) ?_
      refine tl_e rfl (e_alloc (fun b3 => ?_))
      refine tl_e rfl (e_store rfl rfl (by rfl) (by rfl) inferInstance inferInstance inferInstance ?_)
      refine tl_nil (.then_normal ?_)
      refine .sub (F' := [(3, _), (6, _), (7, _), (8, _), (28, _), (29, _)]) (.cons rfl (.cons rfl (.cons rfl (.cons rfl (.cons rfl (.cons rfl .nil)))))) ?_
      refine x_seq (x_region ?_)
      refine .bring b2 inferInstance ?_
      refine tl_e rfl (e_call rfl (hkey_spec (hg.mono hd6) hsD) (by
        rintro _ M7 _ hM7 ⟨rfl, hno, rfl⟩
        have e : (readP pub sig).1 = keyE (sgD k b) := by rw [hr1, parse, if_neg (by omega), if_pos hno]
        exact TP.dropTo L inferInstance (.retA rfl (hd6.trans hM7) ⟨rfl, _, ⟨by rw [e]; exact hno, rfl⟩, by rw [e]⟩)) ?_)
      rintro _ M7 _ hM7 ⟨hke, A8, m8, c8, A9, n9, c9, rfl, rfl, hkT2, hkD2⟩
      have hd7 := hd6.trans hM7
      obtain ⟨u1, u2, u3, u4, u5⟩ := keyT_pair hke
      obtain ⟨ps1, ps2⟩ := parse_succ (j := j) (k := k) (b := b) (by omega) hke
      have hm8 := hkD2.size
      rw [keyD, List.length_drop, sgD, List.length_drop] at hm8
      have hn9 := hkT2.size
      refine tl_y rfl (y_fieldAddr rfl) ?_
      refine tl_e rfl (e_store rfl rfl (by rfl) (by rfl) inferInstance inferInstance inferInstance ?_)
      refine tl_nil (.then_normal ?_)
      have he : Le M7 M7 := Le.refl _
      refine x_draw0 8 ([(b3, .cells (List.toArray [.slice KA kl kc, .slice A7 n7 c7, .slice A9 n9 c9]) 135 (0, 0))]) Keeps.mem hmix rfl ?_
      refine to_p 0 rfl (by kernel_rfl) rfl (y_move (v := .slice _ _ _) rfl) ?_
      refine to_y 1 rfl (by kernel_rfl) rfl (y_loadAgg rfl rfl (.own inferInstance inferInstance)) ?_
      refine to_p 4 rfl (by kernel_rfl) rfl (y_fieldAddr rfl) ?_
      refine to_y 5 rfl (by kernel_rfl) rfl (y_load rfl rfl (.own inferInstance inferInstance)) ?_
      refine to_e 2 rfl (by kernel_rfl) rfl (e_buildSlice rfl (by decide) (fun b4 => ?_))
      refine ⟨⟨he, Keeps.mem⟩, ?_⟩
      refine .pub b4 inferInstance (fun M8 hM8 hb8 => ?_)
      replace he := he.trans hM8
      refine .bringE E inferInstance ?_
      refine to_e 3 rfl (by kernel_rfl) rfl (e_append (by decide) rfl rfl hE (.row (Row.whole (s := 3) (vs := [Value.slice KA kl kc, .slice A7 n7 c7, .slice A9 n9 c9]) hb8 rfl (by omega))) rfl (by omega) (by omega) (fun AX cX EX hEX => ?_))
      refine ⟨⟨he, Keeps.mem⟩, ?_⟩
      refine to_p 6 rfl (by kernel_rfl) rfl (y_assign (v := .slice _ _ _) rfl) ?_
      refine to_p 7 rfl (by kernel_rfl) rfl (y_assign (v := .slice _ _ _) rfl) ?_
      refine to_nil (by kernel_rfl) (.block_normal (.then_normal ?_))
      refine .sub (F' := [(3, _), (6, _), (7, _), (28, _), (29, _)]) (.cons rfl (.cons rfl (.cons rfl (.cons rfl (.cons rfl .nil))))) ?_
      refine x_region ?_
      refine tl_y rfl (y_addI rfl rfl (by omega)) ?_
      refine tl_y rfl (y_move (v := .int _ _) rfl) ?_
      refine .dropTo (EX ++ (bx b2 A8 m8 c8 :: bx b1 A3 m3 c3 :: L)) inferInstance ?_
      refine tl_nil (.loop_next (m' := lv - 1 - (i + 1)) (by omega) (F' := [(3, _), (6, _), (7, _), (28, _), (29, _)]) (.cons rfl (.cons rfl (.cons rfl (.cons rfl (.cons rfl .nil))))) ?_)
      exact ⟨i + 1, A9, n9, c9, keyT (sgD k b), A8, m8, c8, keyD (sgD k b), AX, cX, EX, _, done ++ [⟨k, sgT k b, keyT (sgD k b)⟩], rfl, by omega, hM5.trans (hM6.trans (hM7.trans he)), hkT2.mono he, hkD2.mono he, by omega, u1, hEX,
        (hPt.mono (hM6.trans (hM7.trans he))).snoc (x := ⟨k, sgT k b, keyT (sgD k b)⟩) (hkk.mono (hM6.trans (hM7.trans he))) (hsT.mono (hM7.trans he)) (hkT2.mono he) (fun h => by have h2 := congrArg List.length h; simp only [u3, List.length_nil] at h2; omega),
        by rw [List.length_append, hdl]; rfl, by rw [hr1, ps1]; congr 2; omega, fun h0 => by
          rw [hr2 h0, ps2 (by rw [← hr1]; exact h0), show lv - 1 - (i + 1) = j by omega, List.append_assoc]; rfl, rfl, rfl, rfl⟩
    ·
      obtain rfl : i = lv - 1 := by omega
      rw [Nat.sub_self] at hr1 hr2
      refine .bring b2 inferInstance ?_
      refine x_exit (.then_exit (.loop_exit (.block_exit (.then_normal ?_))))
      refine x_seq (x_region ?_)
      refine tl_y rfl (y_move (v := .slice _ _ _) rfl) ?_
      refine tl_y rfl (y_move (v := .slice _ _ _) rfl) ?_
      refine tl_y rfl (y_move (v := .slice _ _ _) rfl) ?_
      refine tl_e rfl (e_call rfl (hsigned_spec (hg.mono hd5) hbb hbl hkk (by omega) hpk) (by
        rintro _ M6 _ hM6 ⟨rfl, hlt, rfl⟩
        have e : (readP pub sig).1 = 2 := by rw [hr1, parse, if_pos (by omega)]
        exact TP.dropTo L inferInstance (.retA rfl (hd5.trans hM6) ⟨rfl, _, ⟨by rw [e]; decide, rfl⟩, by rw [e]⟩)) ?_)
      rintro _ M6 _ hM6 ⟨hsn, A6, m6, c6, A7, n7, c7, rfl, rfl, hsT, hsD⟩
      have hd6 := hd5.trans hM6
      have hm6 := hsD.size
      rw [sgD, List.length_drop] at hm6
      refine tl_y rfl (y_build rfl) ?_
      refine tl_e rfl (e_buildSlice rfl (by decide) (fun b4 => ?_))
      refine .pub b4 inferInstance (fun M8 hM8 hb8 => ?_)
      have hd8 := hd6.trans hM8
      refine .bringE E inferInstance ?_
      refine tl_e rfl (e_append (by decide) rfl rfl hE (.row (Row.whole (s := 3) (vs := [Value.slice KA kl kc, .slice A7 n7 c7, .slice none 0 0]) hb8 rfl (by omega))) rfl (by omega) (by omega) (fun AX cX EX hEX => ?_))
      refine tl_y rfl (y_assign (v := .slice _ _ _) rfl) ?_
      refine tl_nil (.then_normal ?_)
      refine .sub (F' := [(3, _), (7, _)]) (.cons rfl (.cons rfl .nil)) ?_
      refine x_seq (x_region ?_)
      refine tl_y rfl (y_load rfl rfl (.own inferInstance inferInstance)) ?_
      refine tl_y rfl (y_len rfl) ?_
      refine tl_y rfl (y_eql rfl rfl) ?_
      refine tl_e rfl (e_call rfl (hmust_spec _ _) (by
        rintro _ _ _ _ ⟨rfl, rfl, ht3, rfl⟩
        have e : (readP pub sig).1 = 5 := by rw [hr1, parse, if_neg (by omega), if_pos (by simp at ht3; omega)]
        exact TP.dropTo L inferInstance (.retA rfl hd8 ⟨rfl, _, ⟨by rw [e]; decide, rfl⟩, by rw [e]⟩)) ?_)
      rintro _ _ _ _ ⟨rfl, rfl, ht3⟩
      have hp0 : parse 0 k b = (0, [⟨k, sgT k b, []⟩]) := by rw [parse, if_neg (by omega), if_neg (by simp at ht3; omega)]
      rw [hp0] at hr1 hr2
      have hr2' := hr2 hr1
      refine .bringE EX inferInstance ?_
      refine .pubRow hEX (fun M9 hM9 hrow => ?_)
      refine tl_nil (.then_normal ?_)
      refine .sub (F' := [(7, _)]) (.cons rfl .nil) ?_
      refine x_seq (x_region ?_)
      refine tl_y rfl (y_move (v := .slice _ _ _) rfl) ?_
      refine tl_y rfl (y_assign (v := .slice _ _ _) rfl) ?_
      refine tl_nil (.then_normal ?_)
      refine x_ret (.dropTo L inferInstance (ret1 rfl rfl (hd8.trans hM9) ⟨rfl, _, _, _, _, rfl, hr1, by rw [hr2', List.length_append, hdl]; rfl, hrow, by
        rw [hr2']
        exact ((hPt.mono (hM6.trans (hM8.trans hM9))).snoc (x := ⟨k, sgT k b, []⟩) (hkk.mono (hM6.trans (hM8.trans hM9))) (hsT.mono (hM8.trans hM9)) (Row.nil _ _) (fun _ => rfl))⟩))
  ·
    refine x_region ?_
    refine tl_y rfl (y_move (v := .int _ _) rfl) ?_
    refine tl_y rfl (y_geq rfl rfl) ?_
    refine tl_y rfl (y_move (v := .bool _) rfl) ?_
    refine tl_cases (s := 17) rfl (fun hk1 => ?_) (fun hk1 => ?_)
    ·
      refine tl_y rfl (y_move (v := .int _ _) rfl) ?_
      refine tl_y rfl (y_leq rfl rfl) ?_
      refine tl_y rfl (y_pickT rfl rfl) ?_
      refine tl_e rfl (e_call rfl (hmust_spec _ _) (by
        rintro _ _ _ _ ⟨rfl, rfl, ht2, rfl⟩
        have e : (readP pub sig).1 = 3 := by rw [readP, if_neg (by omega), ← hp4e, if_neg (fun h => h hk0), if_neg (fun h => h hpl), if_pos (by first | (cases ht2; done) | (simp at ht2; omega) | omega)]
        exact TP.dropTo L inferInstance (.retA rfl hd ⟨rfl, _, ⟨by rw [e]; decide, rfl⟩, by rw [e]⟩)) ?_)
      rintro _ _ _ _ ⟨rfl, rfl, ht2⟩
      refine tl_nil (.then_normal (.sub (F' := [(3, _), (5, _), (6, _)]) (.cons rfl (.cons rfl (.cons rfl .nil))) (Jq4 _ _ _ _ ?_)))
      exact ⟨by first | (cases ht2; done) | (simp at ht2; omega) | omega, rfl, rfl, rfl, rfl⟩
    ·
      refine tl_skip rfl ?_
      refine tl_skip rfl ?_
      refine tl_y rfl (y_pickF rfl rfl) ?_
      refine tl_e rfl (e_call rfl (hmust_spec _ _) (by
        rintro _ _ _ _ ⟨rfl, rfl, ht2, rfl⟩
        have e : (readP pub sig).1 = 3 := by rw [readP, if_neg (by omega), ← hp4e, if_neg (fun h => h hk0), if_neg (fun h => h hpl), if_pos (by first | (cases ht2; done) | (simp at ht2; omega) | omega)]
        exact TP.dropTo L inferInstance (.retA rfl hd ⟨rfl, _, ⟨by rw [e]; decide, rfl⟩, by rw [e]⟩)) ?_)
      rintro _ _ _ _ ⟨rfl, rfl, ht2⟩
      refine tl_nil (.then_normal (.sub (F' := [(3, _), (5, _), (6, _)]) (.cons rfl (.cons rfl (.cons rfl .nil))) (Jq4 _ _ _ _ ?_)))
      exact ⟨by first | (cases ht2; done) | (simp at ht2; omega) | omega, rfl, rfl, rfl, rfl⟩
end
end Go.Proofs.YtiimjodbaogjbaaGreatDoor
set_option linter.unusedVariables false
set_option linter.unusedSimpArgs false
set_option linter.constructorNameAsVariable false
namespace Go.Proofs.YtiimjodbaogjbaaGreatDoor
open Go Go.Eng
def sumT (ns : List Nat) (i : Nat) : Nat := (ns.take i).sum
def cutR (bs : List UInt8) (ns : List Nat) (i : Nat) : List (List UInt8) := (List.range i).map fun j => (bs.drop (sumT ns j)).take (ns.getD j 0)
theorem cutR_succ (bs : List UInt8) (ns : List Nat) (i : Nat) : cutR bs ns (i + 1) = cutR bs ns i ++ [(bs.drop (sumT ns i)).take (ns.getD i 0)] := by
  rw [cutR, List.range_succ, List.map_append]; rfl
theorem cutR_get (bs : List UInt8) (ns : List Nat) {i k : Nat} (h : i < k) : (cutR bs ns k).getD i [] = (bs.drop (sumT ns i)).take (ns.getD i 0) := by
  rw [List.getD_eq_getElem?_getD, cutR, List.getElem?_map, List.getElem?_range h]; rfl
theorem cutR_len (bs : List UInt8) (ns : List Nat) (k : Nat) : (cutR bs ns k).length = k := by simp [cutR]
theorem sumT_succ {ns : List Nat} {i : Nat} (h : i < ns.length) : sumT ns (i + 1) = sumT ns i + ns.getD i 0 := by
  rw [sumT, List.take_add_one, List.sum_append, List.getElem?_eq_getElem h, List.getD_eq_getElem?_getD, List.getElem?_eq_getElem h]
  simp [sumT]
theorem sumT_le (ns : List Nat) (i : Nat) : sumT ns i ≤ ns.sum := by
  have := congrArg List.sum (List.take_append_drop i ns)
  rw [List.sum_append] at this
  unfold sumT
  omega
theorem sumT_all (ns : List Nat) : sumT ns ns.length = ns.sum := by rw [sumT, List.take_length]
section
variable {G : World} {M : Mem} {L : Own}
def owrongv (e : Int) : Value := .iface 219 (.agg #[.int .i64 e])
def owrong (e : Int) : List PanicEntry := [{ v := owrongv e, recovered := false }]
theorem opart_spec {A : Option Addr} {m c : Nat} {bs : List UInt8} (h : Bytes M A m c bs) (hm : m ≤ 1000000000000) (n : Nat) :
    Con Tryz.prog 202 #[.slice A m c, .int .i64 (n : Int)] G M L (fun v M' L' => L = L' ∧ n ≤ m ∧ ∃ A' c', v = .tuple #[.slice A' n c', .slice (sl A n c 1) (m - n) (c - n)] ∧ Bytes M' A' n c' (bs.take n)) (fun ch M' L' => L = L' ∧ m < n ∧ ch = owrong 2) := by
  have hc := h.le
  refine enter (args := [_, _]) (fn := Tryz.f202) ⟨Tryz.func202, rfl, by kernel_rfl, by kernel_rfl⟩ 25 rfl ?_
  refine x_seq (x_region ?_)
  refine tl_y rfl (y_assign rfl) ?_
  refine tl_y rfl (y_assign rfl) ?_
  refine tl_nil (.then_normal ?_)
  refine x_seq ?_
  refine x_block ?_
  refine x_seq (x_region ?_)
  refine tl_y rfl (y_move (v := .int _ _) rfl) ?_
  refine tl_y rfl (y_lss rfl rfl) ?_
  refine tl_y rfl (y_assign (v := .bool _) rfl) ?_
  refine tl_nil (.then_normal ?_)
  refine .sub (F' := [(0, _), (1, _), (6, _)]) (.cons rfl (.cons rfl (.cons rfl .nil))) ?_
  refine x_false rfl (decide_eq_false (by omega)) ?_
  refine x_seq (x_region ?_)
  refine tl_y rfl (y_move (v := .int _ _) rfl) ?_
  refine tl_y rfl (y_move (v := .slice _ _ _) rfl) ?_
  refine tl_y rfl (y_len rfl) ?_
  refine tl_y rfl (y_gtr rfl rfl) ?_
  refine tl_y rfl (y_assign (v := .bool _) rfl) ?_
  refine tl_nil (.then_normal ?_)
  refine .sub (F' := [(0, _), (1, _), (11, _)]) (.cons rfl (.cons rfl (.cons rfl .nil))) ?_
  refine x_cond rfl (fun hc2 => ?_) (fun hc2 => ?_)
  ·
    refine x_region ?_
    refine tl_y rfl (y_build rfl) ?_
    refine tl_y rfl (y_makeIface rfl (by intro _ h; cases h)) ?_
    refine tl_e rfl (e_panic rfl (.retA rfl (Le.refl _) ⟨rfl, by omega, rfl⟩))
  ·
    have hn : n ≤ m := by omega
    refine x_skip (.block_normal (.then_normal ?_))
    refine x_seq ?_
    refine x_draw 9 hmix rfl ?_
    refine to_p 0 rfl (by kernel_rfl) rfl (y_move (v := .slice _ _ _) rfl) ?_
    refine to_p 1 rfl (by kernel_rfl) rfl (y_move (v := .int _ _) rfl) ?_
    refine to_p 2 rfl (by kernel_rfl) rfl (y_sliceH rfl rfl (by omega) (by omega)) ?_
    refine to_p 4 rfl (by kernel_rfl) rfl (y_move (v := .slice _ _ _) rfl) ?_
    refine to_p 5 rfl (by kernel_rfl) rfl (y_move (v := .int _ _) rfl) ?_
    refine to_p 6 rfl (by kernel_rfl) rfl (y_sliceL rfl rfl (by omega)) ?_
    refine to_e 3 rfl (by kernel_rfl) rfl (e_call' rfl (bytesClone_spec (Bytes.take h n hn) (by omega)) ?_)
    rintro _ M1 _ hM1 ⟨rfl, A1, c1, rfl, hA1⟩
    refine ⟨⟨(by first | exact Le.refl _ | assumption), Keeps.mem⟩, ?_⟩
    refine to_p 7 rfl (by kernel_rfl) rfl (y_assign (v := .slice _ _ _) rfl) ?_
    refine to_p 8 rfl (by kernel_rfl) rfl (y_assign (v := .slice _ _ _) rfl) ?_
    refine to_nil (by kernel_rfl) (.then_normal ?_)
    refine .sub (F' := [(4, _), (5, _)]) (.cons rfl (.cons rfl .nil)) ?_
    refine x_ret (ret2 rfl rfl rfl hM1 ⟨rfl, hn, A1, c1, rfl, hA1⟩)
theorem Cut1_ret {b c : Nat} {x : Int} {cs : List Value} : ConD Tryz.prog 201 #[.pointer (some ⟨b, 0, none⟩), .pointer (some ⟨c, 0, none⟩)] .returning G M ((c, .cells (List.toArray [.int .i64 x]) 38 (0, 0)) :: (b, .cells cs.toArray 121 (0, 0)) :: L) (fun u' M' L' => u' = .returning ∧ M' = M ∧ L' = (c, .cells (List.toArray [.int .i64 x]) 38 (0, 0)) :: (b, .cells cs.toArray 121 (0, 0)) :: L) := by
  refine enterRec (args := [_, _]) (fn := Tryz.f201) ⟨Tryz.func201, rfl, by kernel_rfl, by kernel_rfl⟩ 13 rfl rfl ?_
  refine x_block ?_
  refine x_seq (x_region ?_)
  refine tl_y rfl (y_eqNilIface rfl rfl) ?_
  refine tl_nil (.then_normal ?_)
  refine x_true rfl (rfl) ?_
  refine x_region ?_
  refine tl_y rfl (y_assign rfl) ?_
  refine tl_nil (.block_normal (.rec_normal (Le.refl _) ⟨rfl, rfl, rfl⟩))
theorem Cut1_wrong {b c : Nat} {x e : Int} {v0 : Value} : ConD Tryz.prog 201 #[.pointer (some ⟨b, 0, none⟩), .pointer (some ⟨c, 0, none⟩)] (.panicking (owrong e)) G M ((c, .cells (List.toArray [.int .i64 x]) 38 (0, 0)) :: (b, .cells (List.toArray [v0]) 121 (0, 0)) :: L)
    (fun u' M' L' => u' = .panicking [{ v := owrongv e, recovered := true }] ∧ M' = M ∧ L' = (c, .cells (List.toArray [.int .i64 e]) 38 (0, 0)) :: (b, .cells (List.toArray [.slice none 0 0]) 121 (0, 0)) :: L) := by
  refine enterRec (args := [_, _]) (fn := Tryz.f201) ⟨Tryz.func201, rfl, by kernel_rfl, by kernel_rfl⟩ 13 rfl rfl ?_
  refine x_block ?_
  refine x_seq (x_region ?_)
  refine tl_y rfl (y_eqIfaceNil rfl rfl) ?_
  refine tl_nil (.then_normal ?_)
  refine x_false rfl (rfl) ?_
  refine x_seq (x_region ?_)
  refine tl_y rfl (y_assertOk rfl (by intro _ h; cases h)) ?_
  refine tl_y rfl (y_extract rfl) ?_
  refine tl_y rfl (y_extract rfl) ?_
  refine tl_nil (.then_normal ?_)
  refine x_true rfl (rfl) ?_
  refine x_seq (x_region ?_)
  refine tl_e rfl (e_alloc (fun b7 => ?_))
  refine tl_e rfl (e_store rfl rfl (by rfl) (by rfl) inferInstance inferInstance inferInstance ?_)
  refine tl_nil (.then_normal ?_)
  refine .sub (F' := [(0, _), (1, _), (3, _)]) (.cons rfl (.cons rfl (.cons rfl .nil))) ?_
  refine x_draw0 4 ((b7, .cells (List.toArray [.int .i64 e]) 219 (0, 0)) :: []) Keeps.mem hmix rfl ?_
  refine to_p 0 rfl (by kernel_rfl) rfl (y_fieldAddr rfl) ?_
  refine to_y 1 rfl (by kernel_rfl) rfl (y_load rfl rfl (.own inferInstance inferInstance)) ?_
  refine to_e 2 rfl (by kernel_rfl) rfl (e_store rfl rfl (by rfl) (by rfl) inferInstance inferInstance inferInstance ?_)
  refine ⟨⟨(by first | exact Le.refl _ | assumption), Keeps.mem⟩, ?_⟩
  refine to_e 3 rfl (by kernel_rfl) rfl (e_store rfl rfl (by rfl) (by rfl) inferInstance inferInstance inferInstance ?_)
  refine ⟨⟨(by first | exact Le.refl _ | assumption), Keeps.mem⟩, ?_⟩
  refine to_nil (by kernel_rfl) (.block_normal (.dropTo ((c, .cells (List.toArray [.int .i64 e]) 38 (0, 0)) :: (b, .cells (List.toArray [.slice none 0 0]) 121 (0, 0)) :: L) inferInstance (.rec_normal (Le.refl _) ⟨rfl, rfl, rfl⟩)))
theorem Cut_spec {A SA : Option Addr} {m c k sc : Nat} {bs : List UInt8} (h : Bytes M A m c bs) (hm : m ≤ 1000000000000) {ns : List Nat} (hns : Row M 1 SA k sc (intsL ns)) (hk : k ≤ 1000) :
    Con Tryz.prog 157 #[.slice A m c, .slice SA k sc] G M L (fun v M' L' => L' = L ∧ ∃ A' n' c' e, v = .tuple #[.slice A' n' c', .int .i64 e] ∧ (e = 0 ↔ m = ns.sum) ∧ (e = 0 → ∃ vs, n' = k ∧ Row M' 1 A' k c' vs ∧ BRows M' vs (cutR bs ns k))) noPanic := by
  have hkl : ns.length = k := by have := hns.len; simpa [intsL] using this
  have hmx := hns.max
  have hmz := h.size
  refine enterD (args := [_, _]) (fn := Tryz.f157) ⟨Tryz.func157, rfl, by kernel_rfl, by kernel_rfl⟩ 33 rfl ?_
  refine x_seq (x_region ?_)
  refine tl_e rfl (e_alloc (fun b1 => ?_))
  refine tl_e rfl (e_alloc (fun b2 => ?_))
  refine tl_nil (.then_normal ?_)
  refine x_seq (x_region ?_)
  refine tl_y rfl (y_makeFunc rfl rfl) ?_
  refine tl_e rfl (e_defer rfl rfl rfl ?_)
  refine tl_nil (.then_normal ?_)
  refine x_seq (x_seq (x_region ?_))
  refine tl_y rfl (y_move (v := .slice _ _ _) rfl) ?_
  refine tl_y rfl (y_len rfl) ?_
  refine tl_y rfl (y_move rfl) ?_
  refine tl_nil (.then_normal ?_)
  refine x_block ?_
  refine x_loop (I := fun m' F D M1 L1 => ∃ (i : Nat) (A1 : Option Addr) (m1 c1 : Nat) (A2 : Option Addr) (c2 : Nat) (E : Own) (vs : List Value), m' = k - i ∧ i ≤ k ∧ Le M M1 ∧ sumT ns i ≤ m ∧ m1 = m - sumT ns i ∧ Bytes M1 A1 m1 c1 (bs.drop (sumT ns i)) ∧ OwnRow 35 1 A2 i c2 vs E ∧ BRows M1 vs (cutR bs ns i) ∧ D = [{ target := .fn (.func 201) (List.toArray [.pointer (some ⟨b1, 0, none⟩), .pointer (some ⟨b2, 0, none⟩)]), args := List.toArray [] }] ∧ L1 = (b2, .cells (List.toArray [.int .i64 0]) 38 (0, 0)) :: (b1, .cells (List.toArray [.slice A2 i c2]) 121 (0, 0)) :: (E ++ L) ∧ F = [(0, .slice A1 m1 c1), (4, .pointer (some ⟨b1, 0, none⟩)), (5, .pointer (some ⟨b2, 0, none⟩)), (10, .slice SA k sc), (11, .int .i64 k), (12, .int .i64 i)]) (k) (F0 := [(0, _), (4, _), (5, _), (10, _), (11, _), (12, _)]) ?_ (.cons rfl (.cons rfl (.cons rfl (.cons rfl (.cons rfl (.cons rfl .nil)))))) ?_  -- slots [0, 4, 5, 10, 11, 12], written [0, 12]
  · exact ⟨0, A, m, c, none, 0, [], [], rfl, by omega, Le.refl _, Nat.zero_le _, by simp [sumT], by simpa [sumT] using h, .nil, .nil, rfl, rfl, rfl⟩
  rintro m _ _ M1 _ ⟨i, A1, m1, c1, A2, c2, E, vs, rfl, hi, hM1, hsi, rfl, hA1, hE, hB, rfl, rfl, rfl⟩
  refine x_seq (x_region ?_)
  refine tl_y rfl (y_lss rfl rfl) ?_
  refine tl_nil (.then_normal ?_)
  refine x_seq ?_
  refine x_cond rfl (fun hc1 => ?_) (fun hc1 => ?_)
  ·
    have hik : i < k := by omega
    obtain ⟨g, o, rfl, hcell⟩ := (hns.mono hM1).addr (by omega)
    have hgi : (intsL ns)[i]? = some (.int .i64 ((ns.getD i 0 : Nat) : Int)) := by
      rw [intsL, List.getElem?_map, List.getD_eq_getElem?_getD, List.getElem?_eq_getElem (by omega)]; rfl
    have hss := sumT_succ (ns := ns) (i := i) (by omega)
    have hsl := sumT_le ns (i + 1)
    refine x_skip (.then_normal ?_)
    refine x_seq ?_
    refine x_block ?_
    refine x_seq (x_region ?_)
    refine tl_y rfl (y_indexAddr rfl rfl (by omega)) ?_
    refine tl_y rfl (y_load rfl rfl (.at_ (hcell _ i _ hgi) (by omega))) ?_
    refine tl_y rfl (y_assign (v := .int _ _) rfl) ?_
    refine tl_nil (.then_normal ?_)
    refine x_seq (x_region ?_)
    refine tl_y rfl (y_assign rfl) ?_
    refine tl_nil (.then_normal ?_)
    refine .sub (F' := [(0, _), (4, _), (5, _), (7, _), (10, _), (11, _), (12, _)]) (.cons rfl (.cons rfl (.cons rfl (.cons rfl (.cons rfl (.cons rfl (.cons rfl .nil))))))) ?_
    refine x_seq (x_region ?_)
    refine tl_y rfl (y_move (v := .slice _ _ _) rfl) ?_
    refine tl_y rfl (y_move (v := .int _ _) rfl) ?_
    refine tl_e rfl (e_call rfl (opart_spec hA1 (by omega) (ns.getD i 0)) (by
      rintro _ M2 _ hM2 ⟨rfl, hlt, rfl⟩
      refine .retD (cap := [_, _]) (args := []) Cut1_wrong ?_
      rintro _ M3 _ hM3 ⟨rfl, rfl, rfl⟩
      exact .inl ⟨rfl, _, L, rv2 rfl (rc_cell (by rfl) rfl (.own inferInstance inferInstance)) (rc_cell (by rfl) rfl (.own inferInstance inferInstance)), inferInstance, hM1.trans hM2, rfl, _, _, _, _, rfl, iff_of_false (by decide) (by omega), fun h => by cases h⟩) ?_)
    rintro _ M2 _ hM2 ⟨rfl, hle, A3, c3, rfl, hA3⟩
    refine tl_y rfl (y_move (v := .tuple _) rfl) ?_
    refine tl_y rfl (y_extract rfl) ?_
    refine tl_y rfl (y_extract rfl) ?_
    refine tl_y rfl (y_assign (v := .slice _ _ _) rfl) ?_
    refine tl_y rfl (y_assign (v := .slice _ _ _) rfl) ?_
    refine tl_nil (.then_normal ?_)
    refine .sub (F' := [(0, _), (4, _), (5, _), (8, _), (10, _), (11, _), (12, _)]) (.cons rfl (.cons rfl (.cons rfl (.cons rfl (.cons rfl (.cons rfl (.cons rfl .nil))))))) ?_
    refine x_region ?_
    refine tl_y rfl (y_load rfl rfl (.own inferInstance inferInstance)) ?_
    refine tl_y rfl (y_move (v := .slice _ _ _) rfl) ?_
    refine tl_e rfl (e_buildSlice rfl (by decide) (fun b3 => ?_))
    refine .pub b3 inferInstance (fun M3 hM3 hb3 => ?_)
    refine .bringE E inferInstance ?_
    refine tl_e rfl (e_append (by decide) rfl rfl hE (.row (Row.whole (s := 1) hb3 rfl (by omega))) rfl (by omega) (by omega) (fun A7 c7 E7 hE7 => ?_))
    refine tl_e rfl (e_store rfl rfl (by rfl) (by rfl) inferInstance inferInstance inferInstance ?_)
    refine tl_nil (.block_normal (.then_normal ?_))
    refine .sub (F' := [(0, _), (4, _), (5, _), (10, _), (11, _), (12, _)]) (.cons rfl (.cons rfl (.cons rfl (.cons rfl (.cons rfl (.cons rfl .nil)))))) ?_
    refine x_region ?_
    refine tl_y rfl (y_addI rfl rfl (by omega)) ?_
    refine tl_y rfl (y_move (v := .int _ _) rfl) ?_
    refine .to ((b2, .cells (List.toArray [.int .i64 0]) 38 (0, 0)) :: (b1, .cells (List.toArray [.slice A7 (i + 1) c7]) 121 (0, 0)) :: (E7 ++ L)) inferInstance ?_
    refine tl_nil (.loop_next (m' := k - (i + 1)) (by omega) (F' := [(0, _), (4, _), (5, _), (10, _), (11, _), (12, _)]) (.cons rfl (.cons rfl (.cons rfl (.cons rfl (.cons rfl (.cons rfl .nil)))))) ?_)
    exact ⟨i + 1, _, _, _, A7, c7, E7, _, rfl, by omega, hM1.trans (hM2.trans hM3), by omega, by omega, by
      have h2 := Bytes.drop hA1 (ns.getD i 0) hle
      rw [List.drop_drop, ← hss] at h2
      exact h2.mono (hM2.trans hM3), hE7, by rw [cutR_succ]; exact (hB.mono (hM2.trans hM3)).snoc (hA3.mono hM3), rfl, rfl, rfl⟩
  ·
    obtain rfl : i = k := by omega
    have hall := sumT_all ns
    rw [hkl] at hall
    refine x_exit (.then_exit (.loop_exit (.block_exit (.then_normal ?_))))
    refine .sub (F' := [(0, _), (4, _), (5, _)]) (.cons rfl (.cons rfl (.cons rfl .nil))) ?_
    refine x_seq (x_seq (x_region ?_))
    refine tl_y rfl (y_move (v := .slice _ _ _) rfl) ?_
    refine tl_y rfl (y_len rfl) ?_
    refine tl_y rfl (y_gtr rfl rfl) ?_
    refine tl_nil (.then_normal ?_)
    refine x_cond rfl (fun hc2 => ?_) (fun hc2 => ?_)
    ·
      refine x_region ?_
      refine tl_y rfl (y_build rfl) ?_
      refine tl_y rfl (y_makeIface rfl (by intro _ h; cases h)) ?_
      refine tl_e rfl (e_panic rfl (by
        refine .retD (cap := [_, _]) (args := []) Cut1_wrong ?_
        rintro _ M3 _ hM3 ⟨rfl, rfl, rfl⟩
        exact .inl ⟨rfl, _, L, rv2 rfl (rc_cell (by rfl) rfl (.own inferInstance inferInstance)) (rc_cell (by rfl) rfl (.own inferInstance inferInstance)), inferInstance, hM1, rfl, _, _, _, _, rfl, iff_of_false (by decide) (by omega), fun h => by cases h⟩))
    ·
      refine .bringE E inferInstance ?_
      refine .pubRow hE (fun M4 hM4 hrow => ?_)
      refine x_skip (.then_normal ?_)
      refine .sub (F' := [(4, _), (5, _)]) (.cons rfl (.cons rfl .nil)) ?_
      refine x_seq (x_region ?_)
      refine tl_y rfl (y_load rfl rfl (.own inferInstance inferInstance)) ?_
      refine tl_e rfl (e_store rfl rfl (by rfl) (by rfl) inferInstance inferInstance inferInstance ?_)
      refine tl_e rfl (e_store rfl rfl (by rfl) (by rfl) inferInstance inferInstance inferInstance ?_)
      refine tl_nil (.then_normal ?_)
      refine x_ret (.to ((b2, .cells (List.toArray [.int .i64 0]) 38 (0, 0)) :: (b1, .cells (List.toArray [.slice A2 i c2]) 121 (0, 0)) :: L) inferInstance (.retD (cap := [_, _]) (args := []) (Cut1_ret (cs := [.slice A2 i c2])) ?_))
      rintro _ M2 _ hM2 ⟨rfl, rfl, rfl⟩
      exact .inl ⟨rfl, _, L, rv2 rfl (rc_cell (by rfl) rfl (.own inferInstance inferInstance)) (rc_cell (by rfl) rfl (.own inferInstance inferInstance)), inferInstance, hM1.trans hM4, rfl, _, _, _, _, rfl, iff_of_true rfl (by omega), fun _ => ⟨_, rfl, hrow, hB.mono hM4⟩⟩
end
end Go.Proofs.YtiimjodbaogjbaaGreatDoor
