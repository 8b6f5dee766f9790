/-
Contracts of functions, each proved by a walk through its code.
-/
import Derived.Test.YtbgdjdhbejbhkaaDoorBase
import Derived.Test.YtbgdjdhbejbhkaaDoorEngL
set_option linter.unusedVariables false
set_option linter.unusedSimpArgs false
namespace Go.Proofs.YtbgdjdhbejbhkaaDoor
open Go Go.Eng
/-- A disk: what is sure, what is pending, the plan, the count, whether it is down. -/
structure DS where
  sure : List (List UInt8)
  pend : List (Int × List UInt8)
  fail : List Int
  stop : Int
  count : Int
  down : Bool
structure DRep where
  sa : Option Addr
  sn : Nat
  sc : Nat
  sv : List Value
  E1 : Own
  pa : Option Addr
  pn : Nat
  pc : Nat
  pv : List Value
  E2 : Own
  fa : Option Addr
  fn : Nat
  fc : Nat
abbrev dcells (r : DRep) (S : DS) : List Value := [.slice r.sa r.sn r.sc, .slice r.pa r.pn r.pc, .slice r.fa r.fn r.fc, .int .i64 S.stop, .int .i64 S.count, .bool S.down]
abbrev dL (p : Nat) (r : DRep) (S : DS) (R : Own) : Own := (p, .cells (List.toArray (dcells r S)) 134 (0, 0)) :: (r.E1 ++ (r.E2 ++ R))
structure IsDisk (M : Mem) (r : DRep) (S : DS) : Prop where
  s : OwnRow 45 1 r.sa r.sn r.sc r.sv r.E1
  p : OwnRow 144 2 r.pa r.pn r.pc r.pv r.E2
  sure : BRows M r.sv S.sure
  pend : PRows M r.pv S.pend
  fail : Ints M r.fa r.fn r.fc S.fail
  sl : ∀ b ∈ S.sure, b.length = 64
  pl : ∀ q ∈ S.pend, q.2.length = 64 ∧ 0 ≤ q.1 ∧ q.1 < S.sure.length
  sz : S.sure.length ≤ 256
theorem IsDisk.mono {M M' : Mem} {r : DRep} {S : DS} (h : IsDisk M r S) (hle : Le M M') : IsDisk M' r S := ⟨h.s, h.p, h.sure.mono hle, h.pend.mono hle, h.fail.mono hle, h.sl, h.pl, h.sz⟩
theorem IsDisk.sn {M : Mem} {r : DRep} {S : DS} (h : IsDisk M r S) : r.sn = S.sure.length := by have := h.s.len; have := h.sure.len; omega
theorem IsDisk.pn {M : Mem} {r : DRep} {S : DS} (h : IsDisk M r S) : r.pn = S.pend.length := by have := h.p.len; have := h.pend.len; omega
section
variable {G : World} {M : Mem} {R : Own} {p : Nat} {r : DRep} {S : DS}
theorem own_spec {L : Own} {A : Option Addr} {n c : Nat} {xs : List Int} (h : Ints M A n c xs) (hn : n ≤ 17592186044416) (stop : Int) :
    Con Tryd.prog 89 #[.agg #[.slice A n c, .int .i64 stop]] G M L (fun v M' L' => L' = L ∧ ∃ A' c', v = .agg #[.slice A' n c', .int .i64 stop] ∧ Ints M' A' n c' xs) noPanic := by
  refine enter (args := [_]) (fn := Tryd.f89) ⟨Tryd.func89, rfl, by kernel_rfl, by kernel_rfl⟩ 9 rfl ?_
  refine x_seq (x_region ?_)
  refine tl_e rfl (e_box rfl (fun b1 => ?_))
  refine tl_e rfl (e_alloc (fun b2 => ?_))
  refine tl_nil (.then_normal ?_)
  refine x_seq ?_
  refine x_draw 6 hmix rfl ?_
  refine to_p 0 rfl (by kernel_rfl) rfl (y_fieldAddr rfl) ?_
  refine to_y 1 rfl (by kernel_rfl) rfl (y_load rfl rfl (.own inferInstance inferInstance)) ?_
  refine to_p 3 rfl (by kernel_rfl) rfl (y_fieldAddr rfl) ?_
  refine to_y 4 rfl (by kernel_rfl) rfl (y_load rfl rfl (.own inferInstance inferInstance)) ?_
  refine to_e 2 rfl (by kernel_rfl) rfl (e_call' rfl (cloneInts_spec h hn) ?_)
  rintro _ M1 L1 hM1 ⟨rfl, A', c', rfl, hA'⟩
  refine ⟨⟨hM1, fun p hp => hp⟩, ?_⟩
  refine to_p 5 rfl (by kernel_rfl) rfl (y_build rfl) ?_
  refine to_t 6 rfl (by kernel_rfl) (by kernel_rfl) rfl (e_store rfl rfl (by rfl) (by rfl) inferInstance inferInstance inferInstance ?_)
  refine to_nil (by kernel_rfl) (.then_normal ?_)
  refine .sub (F' := [(2, _)]) (.cons rfl .nil) ?_
  refine x_ret (retRV (L' := L) (rv1 rfl (rc_cellAgg (by rfl) rfl (.own inferInstance inferInstance))) inferInstance hM1 ⟨rfl, A', c', rfl, hA'⟩)
def DK (p : Nat) (S : DS) (R : Own) (M' : Mem) (L' : Own) : Prop := ∃ r', IsDisk M' r' S ∧ L' = dL p r' S R
theorem is_spec (h : IsDisk M r S) (i : Int) :
    Con Tryd.prog 80 #[.pointer (some ⟨p, 0, none⟩), .int .i64 i] G M (dL p r S R) (fun v M' L' => M' = M ∧ L' = dL p r S R ∧ v = .bool (decide (0 ≤ i ∧ i < S.sure.length))) noPanic := by
  have hsn := h.sn
  refine enter (args := [_, _]) (fn := Tryd.f80) ⟨Tryd.func80, rfl, by kernel_rfl, by kernel_rfl⟩ 16 rfl ?_
  refine x_seq (x_region ?_)
  refine tl_y rfl (y_assign rfl) ?_
  refine tl_nil (.then_normal ?_)
  refine x_seq (x_region ?_)
  refine tl_y rfl (y_move (v := .int _ _) rfl) ?_
  refine tl_y rfl (y_geq rfl rfl) ?_
  refine tl_y rfl (y_move (v := .bool _) rfl) ?_
  refine tl_cases (s := 7) rfl (fun hk1 => ?_) (fun hk1 => ?_)
  ·
    refine tl_y rfl (y_move (v := .int _ _) rfl) ?_
    refine tl_y rfl (y_move (v := .pointer _) rfl) ?_
    refine tl_y rfl (y_nilCheck rfl) ?_
    refine tl_y rfl (y_fieldAddr rfl) ?_
    refine tl_y rfl (y_load rfl rfl (.own inferInstance inferInstance)) ?_
    refine tl_y rfl (y_len rfl) ?_
    refine tl_y rfl (y_lss rfl rfl) ?_
    refine tl_y rfl (y_pickT rfl rfl) ?_
    refine tl_y rfl (y_assign (v := .bool _) rfl) ?_
    refine tl_nil (.then_normal ?_)
    refine .sub (F' := [(4, _)]) (.cons rfl .nil) ?_
    refine x_ret (ret1 rfl rfl (Le.refl _) ⟨rfl, rfl, by congr 1; rw [decide_eq_decide]; omega⟩)
  ·
    refine tl_skip rfl ?_
    refine tl_skip rfl ?_
    refine tl_skip rfl ?_
    refine tl_skip rfl ?_
    refine tl_skip rfl ?_
    refine tl_skip rfl ?_
    refine tl_skip rfl ?_
    refine tl_y rfl (y_pickF rfl rfl) ?_
    refine tl_y rfl (y_assign (v := .bool _) rfl) ?_
    refine tl_nil (.then_normal ?_)
    refine .sub (F' := [(4, _)]) (.cons rfl .nil) ?_
    refine x_ret (ret1 rfl rfl (Le.refl _) ⟨rfl, rfl, by rw [decide_eq_false]; omega⟩)
theorem Count_spec (h : IsDisk M r S) :
    Con Tryd.prog 34 #[.pointer (some ⟨p, 0, none⟩)] G M (dL p r S R) (fun v M' L' => M' = M ∧ L' = dL p r S R ∧ v = .tuple #[.int .i64 S.count, .int .i64 S.pend.length]) noPanic := by
  have hpn := h.pn
  refine enter (args := [_]) (fn := Tryd.f34) ⟨Tryd.func34, rfl, by kernel_rfl, by kernel_rfl⟩ 13 rfl ?_
  refine x_seq (x_region ?_)
  refine tl_y rfl (y_assign rfl) ?_
  refine tl_y rfl (y_assign rfl) ?_
  refine tl_nil (.then_normal ?_)
  refine x_seq ?_
  refine x_draw 11 hmix rfl ?_
  refine to_p 0 rfl (by kernel_rfl) rfl (y_move (v := .pointer _) rfl) ?_
  refine to_p 1 rfl (by kernel_rfl) rfl (y_nilCheck rfl) ?_
  refine to_p 2 rfl (by kernel_rfl) rfl (y_fieldAddr rfl) ?_
  refine to_y 3 rfl (by kernel_rfl) rfl (y_load rfl rfl (.own inferInstance inferInstance)) ?_
  refine to_p 4 rfl (by kernel_rfl) rfl (y_move (v := .pointer _) rfl) ?_
  refine to_p 5 rfl (by kernel_rfl) rfl (y_nilCheck rfl) ?_
  refine to_p 6 rfl (by kernel_rfl) rfl (y_fieldAddr rfl) ?_
  refine to_y 7 rfl (by kernel_rfl) rfl (y_load rfl rfl (.own inferInstance inferInstance)) ?_
  refine to_p 8 rfl (by kernel_rfl) rfl (y_len rfl) ?_
  refine to_p 9 rfl (by kernel_rfl) rfl (y_assign (v := .int _ _) rfl) ?_
  refine to_p 10 rfl (by kernel_rfl) rfl (y_assign (v := .int _ _) rfl) ?_
  refine to_nil (by kernel_rfl) (.then_normal ?_)
  refine .sub (F' := [(2, _), (3, _)]) (.cons rfl (.cons rfl .nil)) ?_
  refine x_ret (ret2 rfl rfl rfl (Le.refl _) ⟨rfl, rfl, by rw [hpn]⟩)
theorem Stop_spec (h : IsDisk M r S) :
    Con Tryd.prog 44 #[.pointer (some ⟨p, 0, none⟩)] G M (dL p r S R) (fun v M' L' => M' = M ∧ DK p { S with down := true } R M' L') noPanic := by
  refine enter (args := [_]) (fn := Tryd.f44) ⟨Tryd.func44, rfl, by kernel_rfl, by kernel_rfl⟩ 5 rfl ?_
  refine x_region ?_
  refine tl_y rfl (y_move (v := .pointer _) rfl) ?_
  refine tl_y rfl (y_nilCheck rfl) ?_
  refine tl_y rfl (y_fieldAddr rfl) ?_
  refine tl_e rfl (e_store rfl rfl (by rfl) (by rfl) inferInstance inferInstance inferInstance ?_)
  refine tl_nil (end0 rfl (Le.refl _) ⟨rfl, r, ⟨h.s, h.p, h.sure, h.pend, h.fail, h.sl, h.pl, h.sz⟩, rfl⟩)
theorem Plan_spec (h : IsDisk M r S) {A : Option Addr} {n c : Nat} {xs : List Int} (hx : Ints M A n c xs) (hn : n ≤ 17592186044416) (stop : Int) :
    Con Tryd.prog 41 #[.pointer (some ⟨p, 0, none⟩), .agg #[.slice A n c, .int .i64 stop]] G M (dL p r S R) (fun v M' L' => DK p { S with fail := xs, stop := stop } R M' L') noPanic := by
  refine enter (args := [_, _]) (fn := Tryd.f41) ⟨Tryd.func41, rfl, by kernel_rfl, by kernel_rfl⟩ 9 rfl ?_
  refine x_seq (x_region ?_)
  refine tl_e rfl (e_box rfl (fun b1 => ?_))
  refine tl_nil (.then_normal ?_)
  refine x_region ?_
  refine tl_y rfl (y_move (v := .pointer _) rfl) ?_
  refine tl_y rfl (y_loadAgg rfl rfl (.own inferInstance inferInstance)) ?_
  refine tl_e rfl (e_call' rfl (own_spec hx hn stop) ?_)
  rintro _ M1 L1 hM1 ⟨rfl, A', c', rfl, hA'⟩
  refine tl_y rfl (y_nilCheck rfl) ?_
  refine tl_y rfl (y_fieldAddr rfl) ?_
  refine tl_e rfl (e_store rfl rfl (by rfl) (by rfl) inferInstance inferInstance inferInstance ?_)
  refine tl_nil (.dropTo (dL p { r with fa := A', fn := n, fc := c' } { S with fail := xs, stop := stop } R) inferInstance (end0 rfl hM1 ⟨{ r with fa := A', fn := n, fc := c' }, ⟨h.s, h.p, h.sure.mono hM1, h.pend.mono hM1, hA', h.sl, h.pl, h.sz⟩, rfl⟩))
def zeros : List UInt8 := List.replicate 64 0
def fresh (n : Nat) : DS := { sure := List.replicate n zeros, pend := [], fail := [], stop := 0, count := 0, down := false }
theorem New_spec {L : Own} (n : Int) :
    Con Tryd.prog 20 #[.int .i64 n] G M L (fun v M' L' => if n < 1 ∨ 256 < n then M' = M ∧ L' = L ∧ v = .tuple #[.pointer none, .int .i64 1] else ∃ p, DK p (fresh n.toNat) L M' L' ∧ v = .tuple #[.pointer (some ⟨p, 0, none⟩), .int .i64 0]) noPanic := by
  refine enter (args := [_]) (fn := Tryd.f20) ⟨Tryd.func20, rfl, by kernel_rfl, by kernel_rfl⟩ 28 rfl ?_
  refine x_seq (x_region ?_)
  refine tl_y rfl (y_assign rfl) ?_
  refine tl_y rfl (y_assign rfl) ?_
  refine tl_nil (.then_normal ?_)
  refine x_seq (x_seq (x_region ?_))
  refine tl_y rfl (y_move (v := .int _ _) rfl) ?_
  refine tl_y rfl (y_lss rfl rfl) ?_
  refine tl_y rfl (y_move (v := .bool _) rfl) ?_
  refine tl_cases (s := 7) rfl (fun hk1 => ?_) (fun hk1 => ?_)
  ·
    refine tl_skip rfl ?_
    refine tl_skip rfl ?_
    refine tl_y rfl (y_pickT rfl rfl) ?_
    refine tl_nil (.then_normal ?_)
    refine .sub (F' := [(0, _), (10, _)]) (.cons rfl (.cons rfl .nil)) ?_
    refine x_true rfl rfl ?_
    refine x_seq (x_region ?_)
    refine tl_y rfl (y_assign rfl) ?_
    refine tl_y rfl (y_assign rfl) ?_
    refine tl_nil (.then_normal ?_)
    refine x_ret (.then_ret (ret2 rfl rfl rfl (Le.refl _) (by rw [if_pos (by omega)]; exact ⟨rfl, rfl, rfl⟩)))
  ·
    refine tl_y rfl (y_move (v := .int _ _) rfl) ?_
    refine tl_y rfl (y_gtr rfl rfl) ?_
    refine tl_y rfl (y_pickF rfl rfl) ?_
    refine tl_nil (.then_normal ?_)
    refine .sub (F' := [(0, _), (10, _)]) (.cons rfl (.cons rfl .nil)) ?_
    refine x_cond rfl (fun hc1 => ?_) (fun hc1 => ?_)
    ·
      refine x_seq (x_region ?_)
      refine tl_y rfl (y_assign rfl) ?_
      refine tl_y rfl (y_assign rfl) ?_
      refine tl_nil (.then_normal ?_)
      refine x_ret (.then_ret (ret2 rfl rfl rfl (Le.refl _) (by rw [if_pos (by omega)]; exact ⟨rfl, rfl, rfl⟩)))
    ·
      refine x_skip (.then_normal ?_)
      refine x_seq (x_region ?_)
      refine tl_y rfl (y_build rfl) ?_
      refine tl_e rfl (e_box rfl (fun b1 => ?_))
      refine tl_y rfl (y_assign (v := .pointer _) rfl) ?_
      refine tl_nil (.then_normal ?_)
      refine x_seq (x_seq (x_region ?_))
      refine tl_y rfl (y_move (v := .int _ _) rfl) ?_
      refine tl_y rfl (y_move rfl) ?_
      refine tl_nil (.then_normal ?_)
      refine .sub (F' := [(4, _), (13, _), (14, _)]) (.cons rfl (.cons rfl (.cons rfl .nil))) ?_
      refine x_block ?_
      refine x_loop (I := fun m' F D M1 L1 => ∃ (k : Nat) (A : Option Addr) (c : Nat) (vs : List Value) (E : Own), m' = n.toNat - k ∧ k ≤ n.toNat ∧ Le M M1 ∧ OwnRow 45 1 A k c vs E ∧ BRows M1 vs (List.replicate k zeros) ∧ D = [] ∧ L1 = (b1, .cells (List.toArray [.slice A k c, .slice none 0 0, .slice none 0 0, .int .i64 0, .int .i64 0, .bool false]) 134 (0, 0)) :: (E ++ L) ∧ F = [(4, .pointer (some ⟨b1, 0, none⟩)), (13, .int .i64 n), (14, .int .i64 k)]) (n.toNat) (F0 := [(4, _), (13, _), (14, _)]) ?_ (.cons rfl (.cons rfl (.cons rfl .nil))) ?_  -- slots [4, 13, 14], written [14]
      · exact ⟨0, none, 0, [], [], rfl, by omega, Le.refl _, OwnRow.nil, .nil, rfl, rfl, rfl⟩
      rintro m _ _ M1 L1 ⟨k, A, c, vs, E, rfl, hk, hM1, hE, hvs, rfl, rfl, rfl⟩
      refine x_seq (x_region ?_)
      refine tl_y rfl (y_lss rfl rfl) ?_
      refine tl_nil (.then_normal ?_)
      refine x_seq ?_
      refine x_cond rfl (fun hc2 => ?_) (fun hc2 => ?_)
      ·
        refine x_skip (.then_normal ?_)
        refine x_seq ?_
        refine x_block ?_
        refine x_draw 7 hmix rfl ?_
        refine to_p 0 rfl (by kernel_rfl) rfl (y_move (v := .pointer _) rfl) ?_
        refine to_p 1 rfl (by kernel_rfl) rfl (y_move (v := .pointer _) rfl) ?_
        refine to_p 2 rfl (by kernel_rfl) rfl (y_nilCheck rfl) ?_
        refine to_p 3 rfl (by kernel_rfl) rfl (y_fieldAddr rfl) ?_
        refine to_y 4 rfl (by kernel_rfl) rfl (y_load rfl rfl (.own inferInstance inferInstance)) ?_
        refine to_e 5 rfl (by kernel_rfl) rfl (e_make1 rfl rfl (by omega) (by omega) (by omega) (by omega) (fun b2 => ?_))
        refine ⟨⟨(by first | exact Le.refl _ | assumption), Keeps.mem⟩, ?_⟩
        refine to_e 6 rfl (by kernel_rfl) rfl (e_buildSlice rfl (by decide) (fun b3 => ?_))
        refine ⟨⟨(by first | exact Le.refl _ | assumption), Keeps.mem⟩, ?_⟩
        refine .bringE E inferInstance ?_
        refine to_t 7 rfl (by kernel_rfl) (by kernel_rfl) rfl (e_append (E := E) (by decide) rfl rfl hE (.own inferInstance rfl) rfl (by omega) (by omega) (fun A' cap' E' hE' => ?_))
        refine to_p 8 rfl (by kernel_rfl) rfl (y_nilCheck rfl) ?_
        refine to_p 9 rfl (by kernel_rfl) rfl (y_fieldAddr rfl) ?_
        refine to_t 10 rfl (by kernel_rfl) (by kernel_rfl) rfl (e_store rfl rfl (by rfl) (by rfl) inferInstance inferInstance inferInstance ?_)
        refine to_nil (by kernel_rfl) (.block_normal (.then_normal ?_))
        refine .pub b2 inferInstance (fun M2 hM2 hb2 => ?_)
        refine .dropTo ((b1, .cells (List.toArray [.slice A' (k + 1) cap', .slice none 0 0, .slice none 0 0, .int .i64 0, .int .i64 0, .bool false]) 134 (0, 0)) :: (E' ++ L)) inferInstance ?_
        refine .sub (F' := [(4, _), (13, _), (14, _)]) (.cons rfl (.cons rfl (.cons rfl .nil))) ?_
        refine x_region ?_
        refine tl_y rfl (y_addI rfl rfl (by omega)) ?_
        refine tl_y rfl (y_move (v := .int _ _) rfl) ?_
        refine tl_nil (.loop_next (m' := n.toNat - (k + 1)) (by omega) (F' := [(4, _), (13, _), (14, _)]) (.cons rfl (.cons rfl (.cons rfl .nil))) ?_)
        exact ⟨k + 1, A', cap', _, E', rfl, by omega, hM1.trans hM2, hE', by rw [List.replicate_succ']; exact (hvs.mono hM2).snoc (Bytes.zeros hb2 (by omega)), rfl, rfl, rfl⟩
      ·
        refine x_exit (.then_exit (.loop_exit (.block_exit (.then_normal ?_))))
        refine x_seq (x_region ?_)
        refine tl_y rfl (y_move (v := .pointer _) rfl) ?_
        refine tl_y rfl (y_assign (v := .pointer _) rfl) ?_
        refine tl_y rfl (y_assign rfl) ?_
        refine tl_nil (.then_normal ?_)
        refine .sub (F' := [(2, _), (3, _)]) (.cons rfl (.cons rfl .nil)) ?_
        refine x_ret (ret2 rfl rfl rfl hM1 (by
rw [if_neg (by omega)]
have hkn : k = n.toNat := by omega
subst hkn
exact ⟨b1, ⟨{ sa := A, sn := n.toNat, sc := c, sv := vs, E1 := E, pa := none, pn := 0, pc := 0, pv := [], E2 := [], fa := none, fn := 0, fc := 0 }, ⟨hE, .nil, hvs, .nil, .nil _ _, by intro b hb; rw [(List.mem_replicate.1 hb).2]; simp [zeros], by intro q hq; simp [fresh] at hq, by simp [fresh]; omega⟩, rfl⟩, rfl⟩))
end
end Go.Proofs.YtbgdjdhbejbhkaaDoor
