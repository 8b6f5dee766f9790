/-
Contracts of functions, each proved by a walk through its code.
-/
import Derived.Test.YtbgdjdhbejbhkaaDoorShaEtc
import Derived.Test.YtbgdjdhbejbhkaaDoorBaseEtc
set_option linter.unusedVariables false
set_option linter.unusedSimpArgs false
namespace Go.Proofs.YtbgdjdhbejbhkaaDoor
open Go Go.Eng
section
variable {G : World} {M : Mem} {R : Own} {p : Nat} {r : DRep} {S : DS}
/-- A row of rows of bytes, only read. -/
def BRow (M : Mem) (v : Value) (bss : List (List UInt8)) : Prop := ∃ A n c vs, v = .slice A n c ∧ Row M 1 A n c vs ∧ BRows M vs bss
theorem Sure_spec (h : IsDisk M r S) :
    Con Tryd.prog 27 #[.pointer (some ⟨p, 0, none⟩)] G M (dL p r S R) (fun v M' L' => L' = dL p r S R ∧ BRow M' v S.sure) noPanic := by
  have hsn := h.sn
  have hsz := h.sz
  have hsv := h.sure.len
  refine enter (args := [_]) (fn := Tryd.f27) ⟨Tryd.func27, rfl, by kernel_rfl, by kernel_rfl⟩ 22 rfl ?_
  refine x_seq (x_region ?_)
  refine tl_y rfl (y_assign rfl) ?_
  refine tl_nil (.then_normal ?_)
  refine x_seq (x_region ?_)
  refine tl_y rfl (y_assign rfl) ?_
  refine tl_nil (.then_normal ?_)
  refine x_seq (x_seq (x_region ?_))
  refine tl_y rfl (y_move (v := .pointer _) rfl) ?_
  refine tl_y rfl (y_nilCheck rfl) ?_
  refine tl_y rfl (y_fieldAddr rfl) ?_
  refine tl_y rfl (y_load rfl rfl (.own inferInstance inferInstance)) ?_
  refine tl_y rfl (y_len rfl) ?_
  refine tl_y rfl (y_move rfl) ?_
  refine tl_nil (.then_normal ?_)
  refine .sub (F' := [(3, _), (9, _), (10, _), (11, _)]) (.cons rfl (.cons rfl (.cons rfl (.cons rfl .nil)))) ?_
  refine x_block ?_
  refine x_loop (I := fun m' F D M1 L1 => ∃ (k : Nat) (A : Option Addr) (c : Nat) (vs : List Value) (E : Own), m' = r.sn - k ∧ k ≤ r.sn ∧ Le M M1 ∧ OwnRow 45 1 A k c vs E ∧ BRows M1 vs (S.sure.take k) ∧ D = [] ∧ L1 = E ++ dL p r S R ∧ F = [(3, .slice A k c), (9, .slice r.sa r.sn r.sc), (10, .int .i64 r.sn), (11, .int .i64 k)]) (r.sn) (F0 := [(3, _), (9, _), (10, _), (11, _)]) ?_ (.cons rfl (.cons rfl (.cons rfl (.cons rfl .nil)))) ?_  -- slots [3, 9, 10, 11], written [3, 11]
  · exact ⟨0, none, 0, [], [], rfl, by omega, Le.refl _, OwnRow.nil, .nil, rfl, rfl, rfl⟩
  rintro m _ _ M1 L1 ⟨k, A, c, vs, E, rfl, hk, hM1, hE, hvs, rfl, rfl, rfl⟩
  refine x_seq (x_region ?_)
  refine tl_y rfl (y_lss rfl rfl) ?_
  refine tl_nil (.then_normal ?_)
  refine x_seq ?_
  refine x_cond rfl (fun hc1 => ?_) (fun hc1 => ?_)
  ·
    have hkn : k < r.sn := by omega
    obtain ⟨g, o, hsa, hcell⟩ := h.s.cellIn (M := M1) (L := E ++ dL p r S R) inferInstance (by omega)
    obtain ⟨A1, n1, c1, hv1, hb1⟩ := (h.sure.mono hM1).get k (by omega)
    have hbl := h.sl (S.sure.getD k []) (by rw [List.getD_eq_getElem?_getD, List.getElem?_eq_getElem (by omega)]; exact List.getElem_mem _)
    have hn1 := hb1.size
    refine x_skip (.then_normal ?_)
    refine x_seq ?_
    refine x_block ?_
    refine x_seq (x_region ?_)
    refine tl_y rfl (y_indexAddr (b := g) (o := o) (by rw [hsa]; rfl) rfl (by omega)) ?_
    refine tl_y rfl (y_load rfl rfl (.at_ (hcell k _ hv1) (by omega))) ?_
    refine tl_y rfl (y_assign (v := .slice _ _ _) rfl) ?_
    refine tl_nil (.then_normal ?_)
    refine x_region ?_
    refine tl_y rfl (y_move (v := .slice _ _ _) rfl) ?_
    refine tl_y rfl (y_move (v := .slice _ _ _) rfl) ?_
    refine tl_e rfl (e_call' rfl (bytesClone_spec hb1 (by omega)) ?_)
    rintro _ M2 L2 hM2 ⟨rfl, A2, c2, rfl, hA2⟩
    refine tl_e rfl (e_buildSlice rfl (by decide) (fun b1 => ?_))
    refine .bringE E inferInstance ?_
    refine tl_e rfl (e_append (E := E) (by decide) rfl rfl hE (.own inferInstance rfl) rfl (by omega) (by omega) (fun A' cap' E' hE' => ?_))
    refine tl_y rfl (y_assign (v := .slice _ _ _) rfl) ?_
    refine tl_nil (.block_normal (.then_normal ?_))
    refine .dropTo (E' ++ dL p r S R) inferInstance ?_
    refine .sub (F' := [(3, _), (9, _), (10, _), (11, _)]) (.cons rfl (.cons rfl (.cons rfl (.cons rfl .nil)))) ?_
    refine x_region ?_
    refine tl_y rfl (y_addI rfl rfl (by omega)) ?_
    refine tl_y rfl (y_move (v := .int _ _) rfl) ?_
    refine tl_nil (.loop_next (m' := r.sn - (k + 1)) (by omega) (F' := [(3, _), (9, _), (10, _), (11, _)]) (.cons rfl (.cons rfl (.cons rfl (.cons rfl .nil)))) ?_)
    exact ⟨k + 1, A', cap', _, E', rfl, by omega, hM1.trans hM2, hE', by
  have ht : S.sure.take (k + 1) = S.sure.take k ++ [S.sure.getD k []] := by rw [List.take_add_one, List.getD_eq_getElem?_getD, List.getElem?_eq_getElem (show k < S.sure.length by omega)]; rfl
  rw [ht]; exact (hvs.mono hM2).snoc hA2, rfl, rfl, rfl⟩
  ·
    refine x_exit (.then_exit (.loop_exit (.block_exit (.then_normal ?_))))
    refine .sub (F' := [(3, _)]) (.cons rfl .nil) ?_
    refine x_seq (x_region ?_)
    refine tl_y rfl (y_move (v := .slice _ _ _) rfl) ?_
    refine tl_y rfl (y_assign (v := .slice _ _ _) rfl) ?_
    refine tl_nil (.then_normal ?_)
    refine x_ret (.pubRow hE fun M' hle hr => ret1 rfl rfl (hM1.trans hle) ⟨rfl, _, _, _, _, rfl, hr, by
      have hkn : k = S.sure.length := by omega
      have := hvs.mono hle
      rwa [hkn, List.take_length] at this⟩)
def gonev (e : Int) : Value := .iface 187 (.agg #[.int .i64 e])
theorem doing1_ret {L : Own} {b : Nat} {o : Obj} : ConD Tryd.prog 119 #[.pointer (some ⟨b, 0, none⟩)] .returning G M ((b, o) :: L) (fun u' M' L' => u' = .returning ∧ M' = M ∧ L' = (b, o) :: L) := by
  refine enterRec (args := [_]) (fn := Tryd.f119) ⟨Tryd.func119, rfl, by kernel_rfl, by kernel_rfl⟩ 12 rfl rfl ?_
  refine x_block ?_
  refine x_seq (x_region ?_)
  refine tl_y rfl (y_eqNilIface rfl rfl) ?_
  refine tl_nil (.then_normal ?_)
  refine x_true rfl (rfl) ?_
  refine x_region ?_
  refine tl_y rfl (y_assign rfl) ?_
  refine tl_nil (.block_normal (.rec_normal (Le.refl _) ⟨rfl, rfl, rfl⟩))
theorem doing1_gone {L : Own} {b : Nat} {x e : Int} : ConD Tryd.prog 119 #[.pointer (some ⟨b, 0, none⟩)] (.panicking [{ v := gonev e, recovered := false }]) G M ((b, .cells (List.toArray [.int .i64 x]) 28 (0, 0)) :: L)
    (fun u' M' L' => u' = .panicking [{ v := gonev e, recovered := true }] ∧ M' = M ∧ L' = (b, .cells (List.toArray [.int .i64 e]) 28 (0, 0)) :: L) := by
  refine enterRec (args := [_]) (fn := Tryd.f119) ⟨Tryd.func119, rfl, by kernel_rfl, by kernel_rfl⟩ 12 rfl rfl ?_
  refine x_block ?_
  refine x_seq (x_region ?_)
  refine tl_y rfl (y_eqIfaceNil rfl rfl) ?_
  refine tl_nil (.then_normal ?_)
  refine x_false rfl (rfl) ?_
  refine x_seq (x_region ?_)
  refine tl_y rfl (y_assertOk rfl (by intro _ h; cases h)) ?_
  refine tl_y rfl (y_extract rfl) ?_
  refine tl_y rfl (y_extract rfl) ?_
  refine tl_nil (.then_normal ?_)
  refine x_true rfl (rfl) ?_
  refine x_seq (x_region ?_)
  refine tl_e rfl (e_alloc (fun b1 => ?_))
  refine tl_e rfl (e_store rfl rfl (by rfl) (by rfl) inferInstance inferInstance inferInstance ?_)
  refine tl_nil (.then_normal ?_)
  refine .sub (F' := [(0, _), (2, _)]) (.cons rfl (.cons rfl .nil)) ?_
  refine x_region ?_
  refine tl_y rfl (y_fieldAddr rfl) ?_
  refine tl_y rfl (y_load rfl rfl (.own inferInstance inferInstance)) ?_
  refine tl_e rfl (e_store rfl rfl (by rfl) (by rfl) inferInstance inferInstance inferInstance ?_)
  refine tl_nil (.block_normal (.dropTo ((b, .cells (List.toArray [.int .i64 e]) 28 (0, 0)) :: L) inferInstance (.rec_normal (Le.refl _) ⟨rfl, rfl, rfl⟩)))
/-- What comes of something that is done: the disk behind it, and the code. 'S2' is the disk where it is carried out. -/
def doingRes (S S2 : DS) : DS × Int :=
  if S.down then (S, 6) else if S.count + 1 = S.stop then ({ S with count := S.count + 1, down := true }, 6) else
  if S.count + 1 ∈ S.fail then ({ S with count := S.count + 1 }, 7) else (S2, 0)
theorem doing_spec (h : IsDisk M r S) {S2 : DS} (hc : -4611686018427387904 ≤ S.count ∧ S.count ≤ 4611686018427387904) {wf : FuncId} {first cap : List Value}
    (hwhat : S.down = false → ∀ b o, Con Tryd.prog wf (first ++ [] ++ cap).toArray G M (dL p r { S with count := S.count + 1 } ((b, o) :: R)) (fun v M' L' => DK p S2 ((b, o) :: R) M' L') noPanic) :
    Con Tryd.prog 81 #[.pointer (some ⟨p, 0, none⟩), .func (.func wf) first.toArray cap.toArray] G M (dL p r S R) (fun v M' L' => DK p (doingRes S S2).1 R M' L' ∧ v = .int .i64 (doingRes S S2).2) noPanic := by
  have hd1 : ∀ {x : Int}, IsDisk M r { S with count := S.count + 1 } := fun {_} => ⟨h.s, h.p, h.sure, h.pend, h.fail, h.sl, h.pl, h.sz⟩
  refine enterD (args := [_, _]) (fn := Tryd.f81) ⟨Tryd.func81, rfl, by kernel_rfl, by kernel_rfl⟩ 48 rfl ?_
  refine x_seq (x_region ?_)
  refine tl_e rfl (e_alloc (fun b1 => ?_))
  refine tl_nil (.then_normal ?_)
  refine x_seq (x_region ?_)
  refine tl_y rfl (y_makeFunc rfl rfl) ?_
  refine tl_e rfl (e_defer rfl rfl rfl ?_)
  refine tl_nil (.then_normal ?_)
  refine x_seq (x_seq (x_region ?_))
  refine tl_y rfl (y_move (v := .pointer _) rfl) ?_
  refine tl_y rfl (y_nilCheck rfl) ?_
  refine tl_y rfl (y_fieldAddr rfl) ?_
  refine tl_y rfl (y_load rfl rfl (.own inferInstance inferInstance)) ?_
  refine tl_nil (.then_normal ?_)
  refine .sub (F' := [(0, _), (1, _), (4, _), (9, _)]) (.cons rfl (.cons rfl (.cons rfl (.cons rfl .nil)))) ?_
  refine x_condb rfl (fun hc1 => ?_) (fun hc1 => ?_)
  ·
    refine x_region ?_
    refine tl_y rfl (y_build rfl) ?_
    refine tl_y rfl (y_makeIface rfl (by intro _ h; cases h)) ?_
    refine tl_e rfl (e_panic rfl (.retD (cap := [_]) (args := []) (doing1_gone (e := 6)) ?_))
    rintro _ M1 L1 hM1 ⟨rfl, rfl, rfl⟩
    refine .inl ⟨rfl, _, dL p r S R, rv1 rfl (rc_cell (by rfl) rfl (.own inferInstance inferInstance)), inferInstance, Le.refl _, ?_⟩
    rw [show doingRes S S2 = (S, 6) by simp [doingRes, hc1]]
    exact ⟨⟨r, h, rfl⟩, rfl⟩
  ·
    refine x_skip (.then_normal ?_)
    refine x_seq (x_region ?_)
    refine tl_y rfl (y_move (v := .pointer _) rfl) ?_
    refine tl_y rfl (y_nilCheck rfl) ?_
    refine tl_y rfl (y_fieldAddr rfl) ?_
    refine tl_y rfl (y_load rfl rfl (.own inferInstance inferInstance)) ?_
    refine tl_y rfl (y_addI rfl rfl (by omega)) ?_
    refine tl_y rfl (y_nilCheck rfl) ?_
    refine tl_y rfl (y_fieldAddr rfl) ?_
    refine tl_e rfl (e_store rfl rfl (by rfl) (by rfl) inferInstance inferInstance inferInstance ?_)
    refine tl_nil (.then_normal ?_)
    refine .sub (F' := [(0, _), (1, _), (4, _)]) (.cons rfl (.cons rfl (.cons rfl .nil))) ?_
    refine x_seq (x_seq ?_)
    refine x_draw 10 hmix rfl ?_
    refine to_p 0 rfl (by kernel_rfl) rfl (y_move (v := .pointer _) rfl) ?_
    refine to_p 1 rfl (by kernel_rfl) rfl (y_nilCheck rfl) ?_
    refine to_p 2 rfl (by kernel_rfl) rfl (y_fieldAddr rfl) ?_
    refine to_y 3 rfl (by kernel_rfl) rfl (y_load rfl rfl (.own inferInstance inferInstance)) ?_
    refine to_p 4 rfl (by kernel_rfl) rfl (y_move (v := .pointer _) rfl) ?_
    refine to_p 5 rfl (by kernel_rfl) rfl (y_nilCheck rfl) ?_
    refine to_p 6 rfl (by kernel_rfl) rfl (y_fieldAddr rfl) ?_
    refine to_p 7 rfl (by kernel_rfl) rfl (y_fieldAddr rfl) ?_
    refine to_y 8 rfl (by kernel_rfl) rfl (y_load rfl rfl (.own inferInstance inferInstance)) ?_
    refine to_p 9 rfl (by kernel_rfl) rfl (y_eql rfl rfl) ?_
    refine to_nil (by kernel_rfl) (.then_normal ?_)
    refine .sub (F' := [(0, _), (1, _), (4, _), (28, _)]) (.cons rfl (.cons rfl (.cons rfl (.cons rfl .nil)))) ?_
    refine x_cond rfl (fun hc2 => ?_) (fun hc2 => ?_)
    ·
      refine x_seq (x_region ?_)
      refine tl_y rfl (y_move (v := .pointer _) rfl) ?_
      refine tl_y rfl (y_nilCheck rfl) ?_
      refine tl_y rfl (y_fieldAddr rfl) ?_
      refine tl_e rfl (e_store rfl rfl (by rfl) (by rfl) inferInstance inferInstance inferInstance ?_)
      refine tl_nil (.then_normal ?_)
      refine .sub (F' := [(0, _), (1, _), (4, _)]) (.cons rfl (.cons rfl (.cons rfl .nil))) ?_
      refine x_region ?_
      refine tl_y rfl (y_build rfl) ?_
      refine tl_y rfl (y_makeIface rfl (by intro _ h; cases h)) ?_
      refine tl_e rfl (e_panic rfl (.retD (cap := [_]) (args := []) (doing1_gone (e := 6)) ?_))
      rintro _ M1 L1 hM1 ⟨rfl, rfl, rfl⟩
      refine .inl ⟨rfl, _, dL p r { S with count := S.count + 1, down := true } R, rv1 rfl (rc_cell (by rfl) rfl (.own inferInstance inferInstance)), inferInstance, Le.refl _, ?_⟩
      rw [show doingRes S S2 = ({ S with count := S.count + 1, down := true }, 6) by simp [doingRes, hc1, hc2]]
      exact ⟨⟨r, ⟨h.s, h.p, h.sure, h.pend, h.fail, h.sl, h.pl, h.sz⟩, rfl⟩, rfl⟩
    ·
      refine x_skip (.then_normal ?_)
      refine x_seq (x_seq ?_)
      refine x_draw 10 hmix rfl ?_
      refine to_p 0 rfl (by kernel_rfl) rfl (y_move (v := .pointer _) rfl) ?_
      refine to_p 1 rfl (by kernel_rfl) rfl (y_nilCheck rfl) ?_
      refine to_p 2 rfl (by kernel_rfl) rfl (y_fieldAddr rfl) ?_
      refine to_p 3 rfl (by kernel_rfl) rfl (y_fieldAddr rfl) ?_
      refine to_y 4 rfl (by kernel_rfl) rfl (y_load rfl rfl (.own inferInstance inferInstance)) ?_
      refine to_p 5 rfl (by kernel_rfl) rfl (y_move (v := .pointer _) rfl) ?_
      refine to_p 6 rfl (by kernel_rfl) rfl (y_nilCheck rfl) ?_
      refine to_p 7 rfl (by kernel_rfl) rfl (y_fieldAddr rfl) ?_
      refine to_y 8 rfl (by kernel_rfl) rfl (y_load rfl rfl (.own inferInstance inferInstance)) ?_
      refine to_e 9 rfl (by kernel_rfl) rfl (e_call' rfl (containsInts_spec h.fail (S.count + 1)) ?_)
      rintro _ M1 L1 hM1 ⟨rfl, rfl, rfl⟩
      refine ⟨⟨(by first | exact Le.refl _ | assumption), Keeps.mem⟩, ?_⟩
      refine to_nil (by kernel_rfl) (.then_normal ?_)
      refine .sub (F' := [(1, _), (4, _), (43, _)]) (.cons rfl (.cons rfl (.cons rfl .nil))) ?_
      refine x_cond rfl (fun hc3 => ?_) (fun hc3 => ?_)
      ·
        refine x_region ?_
        refine tl_y rfl (y_build rfl) ?_
        refine tl_y rfl (y_makeIface rfl (by intro _ h; cases h)) ?_
        refine tl_e rfl (e_panic rfl (.retD (cap := [_]) (args := []) (doing1_gone (e := 7)) ?_))
        rintro _ M2 L2 hM2 ⟨rfl, rfl, rfl⟩
        refine .inl ⟨rfl, _, dL p r { S with count := S.count + 1 } R, rv1 rfl (rc_cell (by rfl) rfl (.own inferInstance inferInstance)), inferInstance, Le.refl _, ?_⟩
        rw [show doingRes S S2 = ({ S with count := S.count + 1 }, 7) by simp [doingRes, hc1, hc2, hc3]]
        exact ⟨⟨r, hd1 (x := 0), rfl⟩, rfl⟩
      ·
        refine x_skip (.then_normal ?_)
        refine x_seq (x_region ?_)
        refine tl_y rfl (y_move (v := .func _ _ _) rfl) ?_
        refine tl_e rfl (e_callv rfl rfl (Con.to (dL p r { S with count := S.count + 1 } ((b1, .cells (List.toArray [.int .i64 0]) 28 (0, 0)) :: R)) inferInstance (hwhat hc1 b1 _)) (fun _ _ _ _ h => h.elim) ?_)
        rintro _ M2 L2 hM2 ⟨r2, hr2, rfl⟩
        refine tl_nil (.then_normal ?_)
        refine .sub (F' := [(4, _)]) (.cons rfl .nil) ?_
        refine x_seq (x_region ?_)
        refine tl_e rfl (e_store rfl rfl (by rfl) (by rfl) inferInstance inferInstance inferInstance ?_)
        refine tl_nil (.then_normal ?_)
        refine .bring b1 inferInstance (x_ret (.retD (cap := [_]) (args := []) doing1_ret ?_))
        rintro _ M3 L3 hM3 ⟨rfl, rfl, rfl⟩
        refine .inl ⟨rfl, _, dL p r2 S2 R, rv1 rfl (rc_cell (by rfl) rfl (.own inferInstance inferInstance)), inferInstance, hM2, ?_⟩
        rw [show doingRes S S2 = (S2, 0) by simp [doingRes, hc1, hc2, hc3]]
        exact ⟨⟨r2, hr2, rfl⟩, rfl⟩
abbrev added (S : DS) (i : Int) (bs : List UInt8) : DS := { S with pend := S.pend ++ [(i, bs)] }
abbrev boxD (x p : Nat) : Nat × Obj := (x, .cells (List.toArray [.pointer (some ⟨p, 0, none⟩)]) 33 (0, 0))
abbrev wbox (x0 x1 x2 p : Nat) (i : Int) (A : Option Addr) (n c : Nat) (R : Own) : Own := (x2, .cells (List.toArray [.slice A n c]) 45 (0, 0)) :: (x1, .cells (List.toArray [.int .i64 i]) 3 (0, 0)) :: boxD x0 p :: R
theorem Write1_spec {be x0 x1 x2 : Nat} {oe : Obj} {i : Int} {A : Option Addr} {n c : Nat} {bs : List UInt8} (h : IsDisk M r S) (hb : Bytes M A n c bs) (hn : n = 64) (hi : 0 ≤ i ∧ i < S.sure.length) (hp : S.pend.length ≤ 1099511627776) :
    Con Tryd.prog 82 #[.pointer (some ⟨x0, 0, none⟩), .pointer (some ⟨x1, 0, none⟩), .pointer (some ⟨x2, 0, none⟩)] G M
      (dL p r S ((be, oe) :: wbox x0 x1 x2 p i A n c R)) (fun v M' L' => DK p (added S i bs) ((be, oe) :: wbox x0 x1 x2 p i A n c R) M' L') noPanic := by
  have hpn := h.pn
  refine enter (args := [_, _, _]) (fn := Tryd.f82) ⟨Tryd.func82, rfl, by kernel_rfl, by kernel_rfl⟩ 16 rfl ?_
  refine x_draw0 13 ([(p, .cells (List.toArray (dcells r S)) 134 (0, 0)), (x2, .cells (List.toArray [.slice A n c]) 45 (0, 0)), (x1, .cells (List.toArray [.int .i64 i]) 3 (0, 0)), boxD x0 p]) Keeps.mem hmix rfl ?_
  refine to_y 0 rfl (by kernel_rfl) rfl (y_load rfl rfl (.own inferInstance inferInstance)) ?_
  refine to_y 1 rfl (by kernel_rfl) rfl (y_load rfl rfl (.own inferInstance inferInstance)) ?_
  refine to_p 2 rfl (by kernel_rfl) rfl (y_nilCheck rfl) ?_
  refine to_p 3 rfl (by kernel_rfl) rfl (y_fieldAddr rfl) ?_
  refine to_y 4 rfl (by kernel_rfl) rfl (y_load rfl rfl (.own inferInstance inferInstance)) ?_
  refine to_y 5 rfl (by kernel_rfl) rfl (y_load rfl rfl (.own inferInstance inferInstance)) ?_
  refine to_y 6 rfl (by kernel_rfl) rfl (y_load rfl rfl (.own inferInstance inferInstance)) ?_
  refine to_e 7 rfl (by kernel_rfl) rfl (e_call' rfl (bytesClone_spec hb (by omega)) ?_)
  rintro _ M1 L1 hM1 ⟨rfl, A', c', rfl, hA'⟩
  refine ⟨⟨(by first | exact Le.refl _ | assumption), Keeps.mem⟩, ?_⟩
  refine to_p 8 rfl (by kernel_rfl) rfl (y_build rfl) ?_
  refine to_e 9 rfl (by kernel_rfl) rfl (e_buildSlice rfl (by decide) (fun b1 => ?_))
  refine ⟨⟨(by first | exact Le.refl _ | assumption), Keeps.mem⟩, ?_⟩
  refine .bringE r.E2 inferInstance ?_
  refine to_e 10 rfl (by kernel_rfl) rfl (e_append (E := r.E2) (by decide) rfl rfl h.p (.own inferInstance rfl) rfl (by omega) (by omega) (fun A2 cap2 E2 hE2 => ?_))
  refine ⟨⟨(by first | exact Le.refl _ | assumption), Keeps.mem⟩, ?_⟩
  refine to_p 11 rfl (by kernel_rfl) rfl (y_nilCheck rfl) ?_
  refine to_p 12 rfl (by kernel_rfl) rfl (y_fieldAddr rfl) ?_
  refine to_t 13 rfl (by kernel_rfl) (by kernel_rfl) rfl (e_store rfl rfl (by rfl) (by rfl) inferInstance inferInstance inferInstance ?_)
  refine to_nil (by kernel_rfl) (.dropTo (dL p { r with pa := A2, pn := r.pn + 1, pc := cap2, pv := r.pv ++ [.int .i64 i, .slice A' n c'], E2 := E2 } (added S i bs) ((be, oe) :: wbox x0 x1 x2 p i A n c R)) inferInstance (end0 rfl hM1 ⟨{ r with pa := A2, pn := r.pn + 1, pc := cap2, pv := r.pv ++ [.int .i64 i, .slice A' n c'], E2 := E2 }, ⟨h.s, hE2, h.sure.mono hM1, (h.pend.mono hM1).snoc hA', h.fail.mono hM1, h.sl, (by
  intro q hq
  rcases List.mem_append.1 hq with hq | hq
  · exact h.pl q hq
  · rw [List.mem_singleton.1 hq]; exact ⟨by have := hb.size; show bs.length = 64; omega, hi⟩), h.sz⟩, rfl⟩))
/-- What 'Write' does: the disk behind it, and the code. -/
def writeRes (S : DS) (i : Int) (bs : List UInt8) : DS × Int :=
  if S.down = false ∧ (¬ (0 ≤ i ∧ i < S.sure.length) ∨ bs.length ≠ 64) then (S, 1)
  else doingRes S (added { S with count := S.count + 1 } i bs)
theorem Write_spec (h : IsDisk M r S) (hc : -4611686018427387904 ≤ S.count ∧ S.count ≤ 4611686018427387904) (hp : S.pend.length ≤ 1099511627776) {i : Int} {A : Option Addr} {n c : Nat} {bs : List UInt8} (hb : Bytes M A n c bs) :
    Con Tryd.prog 31 #[.pointer (some ⟨p, 0, none⟩), .int .i64 i, .slice A n c] G M (dL p r S R) (fun v M' L' => DK p (writeRes S i bs).1 R M' L' ∧ v = .int .i64 (writeRes S i bs).2) noPanic := by
  have hbn := hb.size
  have hdo : ∀ (x0 x1 x2 : Nat), (S.down = false → (0 ≤ i ∧ i < S.sure.length) ∧ n = 64) → Con Tryd.prog 81 #[.pointer (some ⟨p, 0, none⟩), .func (.func 82) (List.toArray []) (List.toArray [.pointer (some ⟨x0, 0, none⟩), .pointer (some ⟨x1, 0, none⟩), .pointer (some ⟨x2, 0, none⟩)])] G M
      (dL p r S (wbox x0 x1 x2 p i A n c R)) (fun v M' L' => DK p (doingRes S (added { S with count := S.count + 1 } i bs)).1 (wbox x0 x1 x2 p i A n c R) M' L' ∧ v = .int .i64 (doingRes S (added { S with count := S.count + 1 } i bs)).2) noPanic := fun x0 x1 x2 hd =>
    doing_spec h hc (first := []) (cap := [_, _, _]) (fun hdn b o => Write1_spec ⟨h.s, h.p, h.sure, h.pend, h.fail, h.sl, h.pl, h.sz⟩ hb (hd hdn).2 (hd hdn).1 hp)
  refine enter (args := [_, _, _]) (fn := Tryd.f31) ⟨Tryd.func31, rfl, by kernel_rfl, by kernel_rfl⟩ 26 rfl ?_
  refine x_seq (x_region ?_)
  refine tl_e rfl (e_box rfl (fun b1 => ?_))
  refine tl_e rfl (e_box rfl (fun b2 => ?_))
  refine tl_e rfl (e_box rfl (fun b3 => ?_))
  refine tl_y rfl (y_assign rfl) ?_
  refine tl_nil (.then_normal ?_)
  refine .sub (F' := [(3, _), (4, _), (5, _)]) (.cons rfl (.cons rfl (.cons rfl .nil))) ?_
  refine x_seq (x_seq (x_region ?_))
  refine tl_y rfl (y_load rfl rfl (.own inferInstance inferInstance)) ?_
  refine tl_y rfl (y_nilCheck rfl) ?_
  refine tl_y rfl (y_fieldAddr rfl) ?_
  refine tl_y rfl (y_load rfl rfl (.own inferInstance inferInstance)) ?_
  refine tl_y rfl (y_not rfl) ?_
  refine tl_y rfl (y_move (v := .bool _) rfl) ?_
  refine tl_casesb (s := 12) rfl (fun hk1 => ?_) (fun hk1 => ?_)
  ·
    refine tl_y rfl (y_load rfl rfl (.own inferInstance inferInstance)) ?_
    refine tl_y rfl (y_load rfl rfl (.own inferInstance inferInstance)) ?_
    refine tl_e rfl (e_call' rfl (Con.to (dL p r S (wbox b1 b2 b3 p i A n c R)) inferInstance (is_spec h i)) ?_)
    rintro _ M1 L1 hM1 ⟨rfl, rfl, rfl⟩
    refine tl_y rfl (y_notd rfl) ?_
    refine tl_y rfl (y_move (v := .bool _) rfl) ?_
    refine tl_cases (s := 17) rfl (fun hk2 => ?_) (fun hk2 => ?_)
    ·
      refine tl_skip rfl ?_
      refine tl_skip rfl ?_
      refine tl_skip rfl ?_
      refine tl_y rfl (y_pickT rfl rfl) ?_
      refine tl_y rfl (y_pickT rfl rfl) ?_
      refine tl_nil (.then_normal ?_)
      refine .sub (F' := [(3, _), (4, _), (5, _), (22, _)]) (.cons rfl (.cons rfl (.cons rfl (.cons rfl .nil)))) ?_
      refine x_true rfl rfl ?_
      refine x_seq (x_region ?_)
      refine tl_y rfl (y_assign rfl) ?_
      refine tl_nil (.then_normal ?_)
      refine .sub (F' := [(6, _)]) (.cons rfl .nil) ?_
      refine x_ret (.then_ret (.dropTo (dL p r S R) inferInstance (ret1 rfl rfl (Le.refl _) (by
  rw [show writeRes S i bs = (S, 1) from if_pos ⟨by simpa using hk1, .inl hk2⟩]
  exact ⟨⟨r, h, rfl⟩, rfl⟩))))
    ·
      refine tl_y rfl (y_load rfl rfl (.own inferInstance inferInstance)) ?_
      refine tl_y rfl (y_len rfl) ?_
      refine tl_y rfl (y_neq rfl rfl) ?_
      refine tl_y rfl (y_pickF rfl rfl) ?_
      refine tl_y rfl (y_pickT rfl rfl) ?_
      refine tl_nil (.then_normal ?_)
      refine .sub (F' := [(3, _), (4, _), (5, _), (22, _)]) (.cons rfl (.cons rfl (.cons rfl (.cons rfl .nil)))) ?_
      refine x_cond rfl (fun hc1 => ?_) (fun hc1 => ?_)
      ·
        refine x_seq (x_region ?_)
        refine tl_y rfl (y_assign rfl) ?_
        refine tl_nil (.then_normal ?_)
        refine .sub (F' := [(6, _)]) (.cons rfl .nil) ?_
        refine x_ret (.then_ret (.dropTo (dL p r S R) inferInstance (ret1 rfl rfl (Le.refl _) (by
  rw [show writeRes S i bs = (S, 1) from if_pos ⟨by simpa using hk1, .inr (by omega)⟩]
  exact ⟨⟨r, h, rfl⟩, rfl⟩))))
      ·
        refine x_skip (.then_normal ?_)
        refine x_seq (x_region ?_)
        refine tl_y rfl (y_load rfl rfl (.own inferInstance inferInstance)) ?_
        refine tl_y rfl (y_makeFunc rfl rfl) ?_
        refine tl_e rfl (e_call' rfl (hdo b1 b2 b3 (fun _ => ⟨by omega, by omega⟩)) ?_)
        rintro _ M2 L2 hM2 ⟨⟨r2, hr2, rfl⟩, rfl⟩
        refine tl_y rfl (y_assign (v := .int _ _) rfl) ?_
        refine tl_nil (.then_normal ?_)
        refine .sub (F' := [(6, _)]) (.cons rfl .nil) ?_
        refine x_ret (.dropTo (dL p r2 _ R) inferInstance (ret1 rfl rfl hM2 (by
  rw [show writeRes S i bs = doingRes S (added { S with count := S.count + 1 } i bs) from if_neg (fun hh => by omega)]
  exact ⟨⟨r2, hr2, rfl⟩, rfl⟩)))
  ·
    refine tl_skip rfl ?_
    refine tl_skip rfl ?_
    refine tl_skip rfl ?_
    refine tl_skip rfl ?_
    refine tl_skip rfl ?_
    refine tl_skip rfl ?_
    refine tl_skip rfl ?_
    refine tl_skip rfl ?_
    refine tl_skip rfl ?_
    refine tl_y rfl (y_pickF rfl rfl) ?_
    refine tl_nil (.then_normal ?_)
    refine .sub (F' := [(3, _), (4, _), (5, _), (22, _)]) (.cons rfl (.cons rfl (.cons rfl (.cons rfl .nil)))) ?_
    refine x_false rfl rfl ?_
    refine x_skip (.then_normal ?_)
    refine x_seq (x_region ?_)
    refine tl_y rfl (y_load rfl rfl (.own inferInstance inferInstance)) ?_
    refine tl_y rfl (y_makeFunc rfl rfl) ?_
    refine tl_e rfl (e_call' rfl (Con.to (dL p r S (wbox b1 b2 b3 p i A n c R)) inferInstance (hdo b1 b2 b3 (fun hh => by rw [hh] at hk1; simp at hk1))) ?_)
    rintro _ M2 L2 hM2 ⟨⟨r2, hr2, rfl⟩, rfl⟩
    refine tl_y rfl (y_assign (v := .int _ _) rfl) ?_
    refine tl_nil (.then_normal ?_)
    refine .sub (F' := [(6, _)]) (.cons rfl .nil) ?_
    refine x_ret (.dropTo (dL p r2 _ R) inferInstance (ret1 rfl rfl hM2 (by
  rw [show writeRes S i bs = doingRes S (added { S with count := S.count + 1 } i bs) from if_neg (fun hh => by rw [hh.1] at hk1; simp at hk1)]
  exact ⟨⟨r2, hr2, rfl⟩, rfl⟩)))
/-- All that is pending is there. -/
def flushTo (s : List (List UInt8)) (ps : List (Int × List UInt8)) : List (List UInt8) := ps.foldl (fun s q => s.set q.1.toNat q.2) s
theorem flushTo_length (ps : List (Int × List UInt8)) : ∀ s, (flushTo s ps).length = s.length := by
  induction ps with
  | nil => intro s; rfl
  | cons q ps ih => intro s; show (flushTo (s.set _ _) ps).length = _; rw [ih]; simp
theorem flushTo_snoc (s : List (List UInt8)) (ps : List (Int × List UInt8)) (q : Int × List UInt8) : flushTo s (ps ++ [q]) = (flushTo s ps).set q.1.toNat q.2 := by simp [flushTo]
theorem flushTo_mem (ps : List (Int × List UInt8)) : ∀ (s : List (List UInt8)) b, b ∈ flushTo s ps → b ∈ s ∨ ∃ q ∈ ps, b = q.2 := by
  induction ps with
  | nil => intro s b hb; exact .inl hb
  | cons q ps ih =>
    intro s b hb
    rcases ih (s.set q.1.toNat q.2) b hb with h | ⟨q', h1, h2⟩
    · rcases List.mem_or_eq_of_mem_set h with h | h
      · exact .inl h
      · exact .inr ⟨q, List.mem_cons_self, h⟩
    · exact .inr ⟨q', List.mem_cons_of_mem _ h1, h2⟩
abbrev flushed (S : DS) : DS := { S with sure := flushTo S.sure S.pend, pend := [] }
theorem Flush1_spec {be x0 : Nat} {oe : Obj} (h : IsDisk M r S) (hp : S.pend.length ≤ 1099511627776) :
    Con Tryd.prog 115 #[.pointer (some ⟨x0, 0, none⟩)] G M
      (dL p r S ((be, oe) :: boxD x0 p :: R)) (fun v M' L' => DK p (flushed S) ((be, oe) :: boxD x0 p :: R) M' L') noPanic := by
  have hpn := h.pn
  have hsn := h.sn
  have hpv := h.pend.len
  have hsz := h.sz
  refine enter (args := [_]) (fn := Tryd.f115) ⟨Tryd.func115, rfl, by kernel_rfl, by kernel_rfl⟩ 25 rfl ?_
  refine x_seq (x_seq (x_region ?_))
  refine tl_y rfl (y_load rfl rfl (.own inferInstance inferInstance)) ?_
  refine tl_y rfl (y_nilCheck rfl) ?_
  refine tl_y rfl (y_fieldAddr rfl) ?_
  refine tl_y rfl (y_load rfl rfl (.own inferInstance inferInstance)) ?_
  refine tl_y rfl (y_len rfl) ?_
  refine tl_y rfl (y_move rfl) ?_
  refine tl_nil (.then_normal ?_)
  refine x_block ?_
  refine x_loop (I := fun m' F D M1 L1 => ∃ (k : Nat) (sv : List Value) (E : Own), m' = r.pn - k ∧ k ≤ r.pn ∧ M = M1 ∧ OwnRow 45 1 r.sa r.sn r.sc sv E ∧ BRows M sv (flushTo S.sure (S.pend.take k)) ∧ D = [] ∧ L1 = (p, .cells (List.toArray (dcells r S)) 134 (0, 0)) :: (E ++ (r.E2 ++ ((be, oe) :: boxD x0 p :: R))) ∧ F = [(0, .pointer (some ⟨x0, 0, none⟩)), (6, .slice r.pa r.pn r.pc), (7, .int .i64 r.pn), (8, .int .i64 k)]) (r.pn) (F0 := [(0, _), (6, _), (7, _), (8, _)]) ?_ (.cons rfl (.cons rfl (.cons rfl (.cons rfl .nil)))) ?_  -- slots [0, 6, 7, 8], written [8]
  · exact ⟨0, r.sv, r.E1, rfl, by omega, rfl, h.s, h.sure, rfl, rfl, rfl⟩
  rintro m _ _ M1 L1 ⟨k, sv, E, rfl, hk, rfl, hE, hsv, rfl, rfl, rfl⟩
  refine x_seq (x_region ?_)
  refine tl_y rfl (y_lss rfl rfl) ?_
  refine tl_nil (.then_normal ?_)
  refine x_seq ?_
  refine x_cond rfl (fun hc1 => ?_) (fun hc1 => ?_)
  ·
    have hkn : k < r.pn := by omega
    obtain ⟨g, o, hpa, hcell⟩ := h.p.cellsIn (M := M) (L := (p, .cells (List.toArray (dcells r S)) 134 (0, 0)) :: (E ++ (r.E2 ++ ((be, oe) :: boxD x0 p :: R)))) inferInstance (by omega)
    obtain ⟨A1, n1, c1, hv1, hv2, hb1⟩ := h.pend.get k (by omega)
    have hq := h.pl (S.pend.getD k default) (getD_mem _ _ _ (by omega))
    generalize hqe : S.pend.getD k default = q at hv1 hv2 hb1 hq
    have hc1 := hcell (k * 2) 2 (by omega)
    rw [take_two hv1 hv2] at hc1
    obtain ⟨gs, pre, slack, hsa, hEe⟩ := hE.pos (by omega)
    subst hEe
    rw [hsa] at hE
    simp only [List.cons_append, List.nil_append] at hc1 ⊢
    have hsl := hsv.len
    rw [flushTo_length] at hsl
    refine x_skip (.then_normal ?_)
    refine x_seq ?_
    refine x_block ?_
    refine x_seq (x_region ?_)
    refine tl_y rfl (y_indexAddr (b := g) (o := o) (by rw [hpa]; rfl) rfl (by omega)) ?_
    refine tl_y rfl (y_loadAgg rfl rfl (.at_ hc1 (by omega))) ?_
    refine tl_e rfl (e_alloc (fun b1 => ?_))
    refine tl_e rfl (e_store rfl rfl (by rfl) (by rfl) inferInstance inferInstance inferInstance ?_)
    refine tl_nil (.then_normal ?_)
    refine x_draw 9 hmix rfl ?_
    refine to_y 0 rfl (by kernel_rfl) rfl (y_load rfl rfl (.own inferInstance inferInstance)) ?_
    refine to_p 1 rfl (by kernel_rfl) rfl (y_nilCheck rfl) ?_
    refine to_p 2 rfl (by kernel_rfl) rfl (y_fieldAddr rfl) ?_
    refine to_y 3 rfl (by kernel_rfl) rfl (y_load rfl rfl (.own inferInstance inferInstance)) ?_
    refine to_p 4 rfl (by kernel_rfl) rfl (y_fieldAddr rfl) ?_
    refine to_y 5 rfl (by kernel_rfl) rfl (y_load rfl rfl (.own inferInstance inferInstance)) ?_
    refine to_p 6 rfl (by kernel_rfl) rfl (y_fieldAddr rfl) ?_
    refine to_y 7 rfl (by kernel_rfl) rfl (y_load rfl rfl (.own inferInstance inferInstance)) ?_
    refine to_p 8 rfl (by kernel_rfl) rfl (y_indexAddr (b := gs) (o := pre.length) (by rw [hsa]; rfl) rfl (by omega)) ?_
    refine to_t 9 rfl (by kernel_rfl) (by kernel_rfl) rfl (e_storeAt (c := pre ++ (sv ++ slack)) rfl rfl rfl inferInstance (by simp; omega) inferInstance ?_)
    refine to_nil (by kernel_rfl) (.block_normal (.then_normal ?_))
    refine .dropTo ((p, .cells (List.toArray (dcells r S)) 134 (0, 0)) :: ((gs, .cells ((pre ++ (sv ++ slack)).set (pre.length + q.1.toNat * 1) (.slice A1 n1 c1)).toArray 45 (0, 0)) :: (r.E2 ++ ((be, oe) :: boxD x0 p :: R)))) inferInstance ?_
    refine .sub (F' := [(0, _), (6, _), (7, _), (8, _)]) (.cons rfl (.cons rfl (.cons rfl (.cons rfl .nil)))) ?_
    refine x_region ?_
    refine tl_y rfl (y_addI rfl rfl (by omega)) ?_
    refine tl_y rfl (y_move (v := .int _ _) rfl) ?_
    refine tl_nil (.loop_next (m' := r.pn - (k + 1)) (by omega) (F' := [(0, _), (6, _), (7, _), (8, _)]) (.cons rfl (.cons rfl (.cons rfl (.cons rfl .nil)))) ?_)
    exact ⟨k + 1, _, _, rfl, by omega, rfl, hsa ▸ hE.set (q.1.toNat * 1) (.slice A1 n1 c1) (by omega), by
  rw [take_snoc _ _ default (by omega), flushTo_snoc, hqe, Nat.mul_one]; exact hsv.set hb1 _, rfl, rfl, rfl⟩
  ·
    refine x_exit (.then_exit (.loop_exit (.block_exit (.then_normal ?_))))
    refine .sub (F' := [(0, _)]) (.cons rfl .nil) ?_
    refine x_region ?_
    refine tl_y rfl (y_load rfl rfl (.own inferInstance inferInstance)) ?_
    refine tl_y rfl (y_nilCheck rfl) ?_
    refine tl_y rfl (y_fieldAddr rfl) ?_
    refine tl_e rfl (e_store rfl rfl (by rfl) (by rfl) inferInstance inferInstance inferInstance ?_)
    refine tl_nil (.dropTo ((p, .cells (List.toArray (dcells { r with sv := sv, E1 := E, pa := none, pn := 0, pc := 0, pv := [], E2 := [] } (flushed S))) 134 (0, 0)) :: (E ++ ((be, oe) :: boxD x0 p :: R))) inferInstance (end0 rfl (Le.refl _) (by
  have hkn : k = S.pend.length := by omega
  rw [hkn, List.take_length] at hsv
  exact ⟨{ r with sv := sv, E1 := E, pa := none, pn := 0, pc := 0, pv := [], E2 := [] }, ⟨hE, .nil, hsv, .nil, h.fail, (fun b hb => by
    rcases flushTo_mem _ _ _ hb with hb | ⟨q, hq, rfl⟩
    · exact h.sl b hb
    · exact (h.pl q hq).1), (fun q hq => by cases hq), by show (flushTo _ _).length ≤ 256; rw [flushTo_length]; exact hsz⟩, rfl⟩)))
abbrev flushRes (S : DS) : DS × Int := doingRes S (flushed { S with count := S.count + 1 })
theorem Flush_spec (h : IsDisk M r S) (hc : -4611686018427387904 ≤ S.count ∧ S.count ≤ 4611686018427387904) (hp : S.pend.length ≤ 1099511627776) :
    Con Tryd.prog 78 #[.pointer (some ⟨p, 0, none⟩)] G M (dL p r S R) (fun v M' L' => DK p (flushRes S).1 R M' L' ∧ v = .int .i64 (flushRes S).2) noPanic := by
  refine enter (args := [_]) (fn := Tryd.f78) ⟨Tryd.func78, rfl, by kernel_rfl, by kernel_rfl⟩ 6 rfl ?_
  refine x_seq (x_region ?_)
  refine tl_e rfl (e_box rfl (fun b1 => ?_))
  refine tl_y rfl (y_assign rfl) ?_
  refine tl_nil (.then_normal ?_)
  refine x_seq (x_region ?_)
  refine tl_y rfl (y_load rfl rfl (.own inferInstance inferInstance)) ?_
  refine tl_y rfl (y_makeFunc rfl rfl) ?_
  refine tl_e rfl (e_call' rfl (Con.to (dL p r S (boxD b1 p :: R)) inferInstance (doing_spec h hc (first := []) (cap := [_]) (fun hdn b o => Flush1_spec ⟨h.s, h.p, h.sure, h.pend, h.fail, h.sl, h.pl, h.sz⟩ hp))) ?_)
  rintro _ M2 L2 hM2 ⟨⟨r2, hr2, rfl⟩, rfl⟩
  refine tl_y rfl (y_assign (v := .int _ _) rfl) ?_
  refine tl_nil (.then_normal ?_)
  refine .sub (F' := [(2, _)]) (.cons rfl .nil) ?_
  refine x_ret (.dropTo (dL p r2 _ R) inferInstance (ret1 rfl rfl hM2 ⟨⟨r2, hr2, rfl⟩, rfl⟩))
end
end Go.Proofs.YtbgdjdhbejbhkaaDoor
set_option linter.unusedVariables false
set_option linter.unusedSimpArgs false
namespace Go.Proofs.YtbgdjdhbejbhkaaDoor
open Go Go.Eng
section
variable {G : World} {M : Mem} {R : Own} {p : Nat} {r : DRep} {S : DS}
/-- A sector behind a pending write, by a choice. -/
def afterF (old b : List UInt8) (c : UInt8) : List UInt8 :=
  if c.toNat % 4 = 0 then old else if c.toNat % 4 = 1 then b else
  if c.toNat % 4 = 2 then b.take (min (c.toNat / 4) 64) ++ old.drop (min (c.toNat / 4) 64) else old.take (min (c.toNat / 4) 64) ++ b.drop (min (c.toNat / 4) 64)
theorem after_spec {L : Own} {Ao Ab : Option Addr} {no co nb cb : Nat} {old b : List UInt8} (ho : Bytes M Ao no co old) (hb : Bytes M Ab nb cb b) (hno : no = 64) (hnb : nb = 64) (c : UInt8) :
    Con Tryd.prog 88 #[.slice Ao no co, .slice Ab nb cb, .int .u8 c.toNat] G M L (fun v M' L' => L = L' ∧ ∃ A' c', v = .slice A' 64 c' ∧ Bytes M' A' 64 c' (afterF old b c)) noPanic := by
  have hc := c.toNat_lt
  have hol := ho.size
  have hbl := hb.size
  subst hno
  subst hnb
  have hk : (if (64 : Int) < (c.toNat : Int) / 4 then (64 : Int) else (c.toNat : Int) / 4) = ((min (c.toNat / 4) 64 : Nat) : Int) := by split <;> omega
  have hk64 : min (c.toNat / 4) 64 ≤ 64 := by omega
  have hcc := hb.le
  have hco := ho.le
  refine enter (args := [_, _, _]) (fn := Tryd.f88) ⟨Tryd.func88, rfl, by kernel_rfl, by kernel_rfl⟩ 38 rfl ?_
  refine x_seq (x_region ?_)
  refine tl_y rfl (y_assign rfl) ?_
  refine tl_nil (.then_normal ?_)
  refine x_seq (x_region ?_)
  refine tl_y rfl (y_move (v := .int _ _) rfl) ?_
  refine tl_y rfl (y_convI rfl (by omega)) ?_
  refine tl_y rfl (y_quoI rfl rfl (by omega)) ?_
  refine tl_y rfl (y_min rfl rfl) ?_
  rw [hk]; generalize hke : min (c.toNat / 4) 64 = k at hk64
  refine tl_y rfl (y_assign (v := .int _ _) rfl) ?_
  refine tl_nil (.then_normal ?_)
  refine .sub (F' := [(0, _), (1, _), (2, _), (7, _)]) (.cons rfl (.cons rfl (.cons rfl (.cons rfl .nil)))) ?_
  refine x_seq (x_seq (x_region ?_))
  refine tl_y rfl (y_move (v := .int _ _) rfl) ?_
  refine tl_y rfl (y_remI rfl rfl (by omega)) ?_
  refine tl_nil (.then_normal ?_)
  refine x_block ?_
  refine x_seq (x_region ?_)
  refine tl_y rfl (y_eql rfl rfl) ?_
  refine tl_y rfl (y_assign (v := .bool _) rfl) ?_
  refine tl_nil (.then_normal ?_)
  refine x_cond rfl (fun hc1 => ?_) (fun hc1 => ?_)
  ·
    refine x_seq (x_region ?_)
    refine tl_y rfl (y_move (v := .slice _ _ _) rfl) ?_
    refine tl_y rfl (y_assign (v := .slice _ _ _) rfl) ?_
    refine tl_nil (.then_normal ?_)
    refine .sub (F' := [(0, _), (1, _), (6, _), (7, _)]) (.cons rfl (.cons rfl (.cons rfl (.cons rfl .nil)))) ?_
    refine x_ret (.block_ret (.then_ret (ret1 rfl rfl (Le.refl _) ⟨rfl, _, _, rfl, by rw [afterF, if_pos (by omega)]; exact ho⟩)))
  ·
    refine x_seq (x_region ?_)
    refine tl_y rfl (y_eql rfl rfl) ?_
    refine tl_y rfl (y_assign (v := .bool _) rfl) ?_
    refine tl_nil (.then_normal ?_)
    refine .sub (F' := [(0, _), (1, _), (7, _), (13, _), (17, _)]) (.cons rfl (.cons rfl (.cons rfl (.cons rfl (.cons rfl .nil))))) ?_
    refine x_cond rfl (fun hc2 => ?_) (fun hc2 => ?_)
    ·
      refine x_seq (x_region ?_)
      refine tl_y rfl (y_move (v := .slice _ _ _) rfl) ?_
      refine tl_y rfl (y_assign (v := .slice _ _ _) rfl) ?_
      refine tl_nil (.then_normal ?_)
      refine x_ret (.block_ret (.then_ret (ret1 rfl rfl (Le.refl _) ⟨rfl, _, _, rfl, by rw [afterF, if_neg (by omega), if_pos (by omega)]; exact hb⟩)))
    ·
      refine x_seq (x_region ?_)
      refine tl_y rfl (y_eql rfl rfl) ?_
      refine tl_y rfl (y_assign (v := .bool _) rfl) ?_
      refine tl_nil (.then_normal ?_)
      refine x_cond rfl (fun hc3 => ?_) (fun hc3 => ?_)
      ·
        refine x_seq ?_
        refine x_draw 9 hmix rfl ?_
        refine to_p 0 rfl (by kernel_rfl) rfl (y_move (v := .slice _ _ _) rfl) ?_
        refine to_p 1 rfl (by kernel_rfl) rfl (y_move (v := .int _ _) rfl) ?_
        refine to_p 2 rfl (by kernel_rfl) rfl (y_sliceH rfl rfl (by omega) (by omega)) ?_
        refine to_p 3 rfl (by kernel_rfl) rfl (y_move (v := .slice _ _ _) rfl) ?_
        refine to_p 4 rfl (by kernel_rfl) rfl (y_move (v := .int _ _) rfl) ?_
        refine to_p 5 rfl (by kernel_rfl) rfl (y_sliceL rfl rfl (by omega)) ?_
        refine to_e 6 rfl (by kernel_rfl) rfl (e_buildSlice rfl (by decide) (fun b1 => ?_))
        refine ⟨⟨(by first | exact Le.refl _ | assumption), Keeps.mem⟩, ?_⟩
        refine .pub b1 inferInstance (fun M1 hM1 hb1 => ?_)
        refine to_e 7 rfl (by kernel_rfl) rfl (e_call' rfl (concatBytes_spec (Row.whole hb1 (by simp) (by omega)) (.cons ((hb.take k hk64).mono hM1) (.cons ((ho.drop k hk64).mono hM1) .nil)) (by simp; omega)) ?_)
        rintro _ M2 L2 hM2 ⟨rfl, A', c', rfl, hA'⟩
        refine ⟨⟨hM1.trans hM2, Keeps.mem⟩, ?_⟩
        refine to_p 8 rfl (by kernel_rfl) rfl (y_assign (v := .slice _ _ _) rfl) ?_
        refine to_nil (by kernel_rfl) (.then_normal ?_)
        refine .sub (F' := [(0, _), (1, _), (6, _), (7, _)]) (.cons rfl (.cons rfl (.cons rfl (.cons rfl .nil)))) ?_
        refine x_ret (.block_ret (.then_ret (ret1 rfl rfl (hM1.trans hM2) (by
  have hl : [List.take k b, List.drop k old].flatten.length = 64 := by simp; omega
  rw [hl] at hA' ⊢
  exact ⟨rfl, _, _, rfl, by rw [afterF, if_neg (by omega), if_neg (by omega), if_pos (by omega), hke]; simpa using hA'⟩))))
      ·
        refine x_skip (.block_normal (.then_normal ?_))
        refine .sub (F' := [(0, _), (1, _), (7, _)]) (.cons rfl (.cons rfl (.cons rfl .nil))) ?_
        refine x_seq ?_
        refine x_draw 9 hmix rfl ?_
        refine to_p 0 rfl (by kernel_rfl) rfl (y_move (v := .slice _ _ _) rfl) ?_
        refine to_p 1 rfl (by kernel_rfl) rfl (y_move (v := .int _ _) rfl) ?_
        refine to_p 2 rfl (by kernel_rfl) rfl (y_sliceH rfl rfl (by omega) (by omega)) ?_
        refine to_p 3 rfl (by kernel_rfl) rfl (y_move (v := .slice _ _ _) rfl) ?_
        refine to_p 4 rfl (by kernel_rfl) rfl (y_move (v := .int _ _) rfl) ?_
        refine to_p 5 rfl (by kernel_rfl) rfl (y_sliceL rfl rfl (by omega)) ?_
        refine to_e 6 rfl (by kernel_rfl) rfl (e_buildSlice rfl (by decide) (fun b2 => ?_))
        refine ⟨⟨(by first | exact Le.refl _ | assumption), Keeps.mem⟩, ?_⟩
        refine .pub b2 inferInstance (fun M1 hM1 hb1 => ?_)
        refine to_e 7 rfl (by kernel_rfl) rfl (e_call' rfl (concatBytes_spec (Row.whole hb1 (by simp) (by omega)) (.cons ((ho.take k hk64).mono hM1) (.cons ((hb.drop k hk64).mono hM1) .nil)) (by simp; omega)) ?_)
        rintro _ M2 L2 hM2 ⟨rfl, A', c', rfl, hA'⟩
        refine ⟨⟨hM1.trans hM2, Keeps.mem⟩, ?_⟩
        refine to_p 8 rfl (by kernel_rfl) rfl (y_assign (v := .slice _ _ _) rfl) ?_
        refine to_nil (by kernel_rfl) (.then_normal ?_)
        refine .sub (F' := [(6, _)]) (.cons rfl .nil) ?_
        refine x_ret (ret1 rfl rfl (hM1.trans hM2) (by
  have hl : [List.take k old, List.drop k b].flatten.length = 64 := by simp; omega
  rw [hl] at hA' ⊢
  exact ⟨rfl, _, _, rfl, by rw [afterF, if_neg (by omega), if_neg (by omega), if_neg (by omega), hke]; simpa using hA'⟩))
abbrev chL (x0 x1 : Nat) (A : Option Addr) (n c : Nat) (at_ : Nat) (L : Own) : Own := (x1, .cells (List.toArray [.int .i64 at_]) 3 (0, 0)) :: (x0, .cells (List.toArray [.slice A n c]) 45 (0, 0)) :: L
theorem chooser_spec {L : Own} {A : Option Addr} {n c : Nat} :
    Con Tryd.prog 87 #[.slice A n c] G M L (fun v M' L' => M = M' ∧ ∃ x0 x1, L' = chL x0 x1 A n c 0 L ∧ v = .func (.func 122) (List.toArray []) (List.toArray [.pointer (some ⟨x0, 0, none⟩), .pointer (some ⟨x1, 0, none⟩)])) noPanic := by
  refine enter (args := [_]) (fn := Tryd.f87) ⟨Tryd.func87, rfl, by kernel_rfl, by kernel_rfl⟩ 5 rfl ?_
  refine x_seq (x_region ?_)
  refine tl_e rfl (e_box rfl (fun b1 => ?_))
  refine tl_y rfl (y_assign rfl) ?_
  refine tl_nil (.then_normal ?_)
  refine x_seq (x_region ?_)
  refine tl_e rfl (e_alloc (fun b2 => ?_))
  refine tl_e rfl (e_store rfl rfl (by rfl) (by rfl) inferInstance inferInstance inferInstance ?_)
  refine tl_nil (.then_normal ?_)
  refine x_seq (x_region ?_)
  refine tl_y rfl (y_makeFunc rfl rfl) ?_
  refine tl_y rfl (y_assign (v := .func _ _ _) rfl) ?_
  refine tl_nil (.then_normal ?_)
  refine .sub (F' := [(2, _)]) (.cons rfl .nil) ?_
  refine x_ret (ret1 rfl rfl (Le.refl _) ⟨rfl, b1, b2, rfl, rfl⟩)
/-- The choice that comes as number 'j'. -/
def nextC (cs : List UInt8) (j : Nat) : UInt8 := if cs.length = 0 then 0 else cs.getD (j % cs.length) 0
def nextAt (cs : List UInt8) (j : Nat) : Nat := if cs.length = 0 then 0 else j
theorem chooser1_spec {L : Own} {A : Option Addr} {n c x0 x1 : Nat} {cs : List UInt8} (h : Bytes M A n c cs) (j : Nat) (hj : j ≤ 1099511627776) :
    Con Tryd.prog 122 #[.pointer (some ⟨x0, 0, none⟩), .pointer (some ⟨x1, 0, none⟩)] G M (chL x0 x1 A n c (nextAt cs j) L) (fun v M' L' => M = M' ∧ L' = chL x0 x1 A n c (nextAt cs (j + 1)) L ∧ v = .int .u8 (nextC cs j).toNat) noPanic := by
  have hs := h.size
  refine enter (args := [_, _]) (fn := Tryd.f122) ⟨Tryd.func122, rfl, by kernel_rfl, by kernel_rfl⟩ 17 rfl ?_
  refine x_seq (x_region ?_)
  refine tl_y rfl (y_assign rfl) ?_
  refine tl_nil (.then_normal ?_)
  refine x_seq (x_seq (x_region ?_))
  refine tl_y rfl (y_load rfl rfl (.own inferInstance inferInstance)) ?_
  refine tl_y rfl (y_len rfl) ?_
  refine tl_y rfl (y_eql rfl rfl) ?_
  refine tl_nil (.then_normal ?_)
  refine x_cond rfl (fun hc1 => ?_) (fun hc1 => ?_)
  ·
    refine x_seq (x_region ?_)
    refine tl_y rfl (y_assign rfl) ?_
    refine tl_nil (.then_normal ?_)
    refine .sub (F' := [(2, _)]) (.cons rfl .nil) ?_
    refine x_ret (.then_ret (ret1 rfl rfl (Le.refl _) ⟨rfl, by simp [nextAt, show cs.length = 0 by omega], by simp [nextC, show cs.length = 0 by omega]⟩))
  ·
    have hn : 0 < n := by omega
    obtain ⟨m, hme⟩ : ∃ m, m = j % n := ⟨_, rfl⟩
    have hm : m < n := by rw [hme]; exact Nat.mod_lt _ hn
    obtain ⟨g, o, rfl, hcell⟩ := h.byte hn
    rw [show nextAt cs j = j by rw [nextAt, if_neg (by omega)]]
    have hjm : (((j : Nat) : Int) % ((n : Nat) : Int)) = (m : Int) := by simp [hme]
    refine x_skip (.then_normal ?_)
    refine .sub (F' := [(0, _), (1, _)]) (.cons rfl (.cons rfl .nil)) ?_
    refine x_seq ?_
    refine x_draw 8 hmix rfl ?_
    refine to_y 0 rfl (by kernel_rfl) rfl (y_load rfl rfl (.own inferInstance inferInstance)) ?_
    refine to_y 1 rfl (by kernel_rfl) rfl (y_load rfl rfl (.own inferInstance inferInstance)) ?_
    refine to_y 2 rfl (by kernel_rfl) rfl (y_load rfl rfl (.own inferInstance inferInstance)) ?_
    refine to_p 3 rfl (by kernel_rfl) rfl (y_len rfl) ?_
    refine to_p 4 rfl (by kernel_rfl) rfl (y_remI rfl rfl (by omega)) ?_
    rw [hjm]
    refine to_p 5 rfl (by kernel_rfl) rfl (y_indexAddr rfl rfl (by omega)) ?_
    refine to_y 6 rfl (by kernel_rfl) rfl (y_load rfl rfl (.at_ (hcell _ m hm) (by simp))) ?_
    refine to_p 7 rfl (by kernel_rfl) rfl (y_assign (v := .int _ _) rfl) ?_
    refine to_nil (by kernel_rfl) (.then_normal ?_)
    refine .sub (F' := [(1, _), (3, _)]) (.cons rfl (.cons rfl .nil)) ?_
    refine x_seq (x_region ?_)
    refine tl_y rfl (y_load rfl rfl (.own inferInstance inferInstance)) ?_
    refine tl_y rfl (y_addI rfl rfl (by omega)) ?_
    refine tl_e rfl (e_store rfl rfl (by rfl) (by rfl) inferInstance inferInstance inferInstance ?_)
    refine tl_nil (.then_normal ?_)
    refine x_seq (x_region ?_)
    refine tl_y rfl (y_move (v := .int _ _) rfl) ?_
    refine tl_y rfl (y_assign (v := .int _ _) rfl) ?_
    refine tl_nil (.then_normal ?_)
    refine .sub (F' := [(2, _)]) (.cons rfl .nil) ?_
    refine x_ret (ret1 rfl rfl (Le.refl _) ⟨rfl, by simp [nextAt, show ¬ cs.length = 0 by omega], by rw [nextC, if_neg (by omega), hs, ← hme]⟩)
/-- The sectors behind the pending writes, by the choices. -/
def upGo (cs : List UInt8) : Nat → List (Int × List UInt8) → List (List UInt8) → List (List UInt8)
  | _, [], s => s
  | j, q :: ps, s => upGo cs (j + 1) ps (s.set q.1.toNat (afterF (s.getD q.1.toNat []) q.2 (nextC cs j)))
theorem upGo_snoc (cs : List UInt8) (q : Int × List UInt8) : ∀ (ps : List (Int × List UInt8)) (j : Nat) (s : List (List UInt8)),
    upGo cs j (ps ++ [q]) s = (upGo cs j ps s).set q.1.toNat (afterF ((upGo cs j ps s).getD q.1.toNat []) q.2 (nextC cs (j + ps.length)))
  | [], j, s => rfl
  | q' :: ps, j, s => by
    show upGo cs (j + 1) (ps ++ [q]) _ = _
    rw [upGo_snoc cs q ps (j + 1)]
    simp only [upGo, List.length_cons]
    rw [show j + 1 + ps.length = j + (ps.length + 1) by omega]
theorem upGo_length (cs : List UInt8) : ∀ (ps : List (Int × List UInt8)) (j : Nat) (s : List (List UInt8)), (upGo cs j ps s).length = s.length
  | [], _, _ => rfl
  | q :: ps, j, s => by show (upGo cs (j + 1) ps _).length = _; rw [upGo_length cs ps]; simp
theorem afterF_length {old b : List UInt8} {c : UInt8} (h1 : old.length = 64) (h2 : b.length = 64) : (afterF old b c).length = 64 := by
  unfold afterF
  split
  · exact h1
  · split
    · exact h2
    · split <;> simp [h1, h2] <;> omega
theorem upGo_mem (cs : List UInt8) : ∀ (ps : List (Int × List UInt8)) (j : Nat) (s : List (List UInt8)), (∀ b ∈ s, b.length = 64) → (∀ q ∈ ps, q.2.length = 64 ∧ 0 ≤ q.1 ∧ q.1 < s.length) → ∀ b ∈ upGo cs j ps s, b.length = 64
  | [], _, s, hs, _ => hs
  | q :: ps, j, s, hs, hp => by
    have hq := hp q List.mem_cons_self
    refine upGo_mem cs ps (j + 1) _ (fun b hb => ?_) (fun q' hq' => ?_)
    · rcases List.mem_or_eq_of_mem_set hb with hb | rfl
      · exact hs b hb
      · exact afterF_length (hs _ (getD_mem _ _ _ (by omega))) hq.1
    · have := hp q' (List.mem_cons_of_mem _ hq')
      simpa using this
def upped (S : DS) (cs : List UInt8) (xs : List Int) (stop : Int) : DS := { sure := upGo cs 0 S.pend S.sure, pend := [], fail := xs, stop := stop, count := 0, down := false }
theorem Up_spec (h : IsDisk M r S) (hp : S.pend.length ≤ 549755813888) {Ac : Option Addr} {nc cc : Nat} {cs : List UInt8} (hcs : Bytes M Ac nc cc cs) {A : Option Addr} {n c : Nat} {xs : List Int} (hx : Ints M A n c xs) (hn : n ≤ 17592186044416) (stop : Int) :
    Con Tryd.prog 39 #[.pointer (some ⟨p, 0, none⟩), .slice Ac nc cc, .agg #[.slice A n c, .int .i64 stop]] G M (dL p r S R) (fun v M' L' => DK p (upped S cs xs stop) R M' L') noPanic := by
  have hpn := h.pn
  have hsn := h.sn
  have hpv := h.pend.len
  have hsz := h.sz
  refine enter (args := [_, _, _]) (fn := Tryd.f39) ⟨Tryd.func39, rfl, by kernel_rfl, by kernel_rfl⟩ 55 rfl ?_
  refine x_seq (x_region ?_)
  refine tl_e rfl (e_box rfl (fun b1 => ?_))
  refine tl_nil (.then_normal ?_)
  refine x_seq (x_region ?_)
  refine tl_y rfl (y_move (v := .slice _ _ _) rfl) ?_
  refine tl_e rfl (e_call' rfl chooser_spec ?_)
  rintro _ M1 L1 hM1 ⟨rfl, x0, x1, rfl, rfl⟩
  refine tl_y rfl (y_assign (v := .func _ _ _) rfl) ?_
  refine tl_nil (.then_normal ?_)
  refine .sub (F' := [(0, _), (5, _), (6, _)]) (.cons rfl (.cons rfl (.cons rfl .nil))) ?_
  refine x_seq (x_seq (x_region ?_))
  refine tl_y rfl (y_move (v := .pointer _) rfl) ?_
  refine tl_y rfl (y_nilCheck rfl) ?_
  refine tl_y rfl (y_fieldAddr rfl) ?_
  refine tl_y rfl (y_load rfl rfl (.own inferInstance inferInstance)) ?_
  refine tl_y rfl (y_len rfl) ?_
  refine tl_y rfl (y_move rfl) ?_
  refine tl_nil (.then_normal ?_)
  refine x_block ?_
  refine x_loop (I := fun m' F D M1 L1 => ∃ (k : Nat) (sv : List Value) (E : Own), m' = r.pn - k ∧ k ≤ r.pn ∧ Le M M1 ∧ OwnRow 45 1 r.sa r.sn r.sc sv E ∧ BRows M1 sv (upGo cs 0 (S.pend.take k) S.sure) ∧ D = [] ∧ L1 = chL x0 x1 Ac nc cc (nextAt cs k) ((b1, .cells (List.toArray [.slice A n c, .int .i64 stop]) 66 (0, 0)) :: (p, .cells (List.toArray (dcells r S)) 134 (0, 0)) :: (E ++ (r.E2 ++ R))) ∧
  F = [(0, .pointer (some ⟨p, 0, none⟩)), (5, .pointer (some ⟨b1, 0, none⟩)), (6, .func (.func 122) (List.toArray []) (List.toArray [.pointer (some ⟨x0, 0, none⟩), .pointer (some ⟨x1, 0, none⟩)])), (14, .slice r.pa r.pn r.pc), (15, .int .i64 r.pn), (16, .int .i64 k)]) (r.pn) (F0 := [(0, _), (5, _), (6, _), (14, _), (15, _), (16, _)]) ?_ (.cons rfl (.cons rfl (.cons rfl (.cons rfl (.cons rfl (.cons rfl .nil)))))) ?_  -- slots [0, 5, 6, 14, 15, 16], written [16]
  · exact ⟨0, r.sv, r.E1, rfl, by omega, Le.refl _, h.s, h.sure, rfl, by simp [nextAt], rfl⟩
  rintro m _ _ M1 L1 ⟨k, sv, E, rfl, hk, hM1, hE, hsv, rfl, rfl, rfl⟩
  refine x_seq (x_region ?_)
  refine tl_y rfl (y_lss rfl rfl) ?_
  refine tl_nil (.then_normal ?_)
  refine x_seq ?_
  refine x_cond rfl (fun hc1 => ?_) (fun hc1 => ?_)
  ·
    have hkn : k < r.pn := by omega
    obtain ⟨g, o, hpa, hcell⟩ := h.p.cellsIn (M := M1) (L := chL x0 x1 Ac nc cc (nextAt cs k) ((b1, .cells (List.toArray [.slice A n c, .int .i64 stop]) 66 (0, 0)) :: (p, .cells (List.toArray (dcells r S)) 134 (0, 0)) :: (E ++ (r.E2 ++ R)))) inferInstance (by omega)
    obtain ⟨A1, n1, c1, hv1, hv2, hb1⟩ := (h.pend.mono hM1).get k (by omega)
    have hq := h.pl (S.pend.getD k default) (getD_mem _ _ _ (by omega))
    generalize hqe : S.pend.getD k default = q at hv1 hv2 hb1 hq
    have hc1 := hcell (k * 2) 2 (by omega)
    rw [take_two hv1 hv2] at hc1
    obtain ⟨gs, pre, slack, hsa, hEe⟩ := hE.pos (by omega)
    subst hEe
    rw [hsa] at hE
    simp only [List.cons_append, List.nil_append] at hc1 ⊢
    have hsl := hsv.len
    rw [upGo_length] at hsl
    obtain ⟨Ao, no, co, hvo, hbo⟩ := hsv.get q.1.toNat (by rw [upGo_length]; omega)
    have hol := upGo_mem cs (S.pend.take k) 0 S.sure h.sl (fun q hq => h.pl q (List.mem_of_mem_take hq)) _ (getD_mem _ q.1.toNat [] (by rw [upGo_length]; omega))
    have hno := hbo.size
    have hn1 := hb1.size
    refine x_skip (.then_normal ?_)
    refine x_seq ?_
    refine x_block ?_
    refine x_seq (x_region ?_)
    refine tl_y rfl (y_indexAddr (b := g) (o := o) (by rw [hpa]; rfl) rfl (by omega)) ?_
    refine tl_y rfl (y_loadAgg rfl rfl (.at_ hc1 (by omega))) ?_
    refine tl_e rfl (e_alloc (fun b2 => ?_))
    refine tl_e rfl (e_store rfl rfl (by rfl) (by rfl) inferInstance inferInstance inferInstance ?_)
    refine tl_nil (.then_normal ?_)
    refine x_draw0 20 ([(b2, .cells (List.toArray [.int .i64 q.1, .slice A1 n1 c1]) 144 (0, 0)), (p, .cells (List.toArray (dcells r S)) 134 (0, 0)), (gs, .cells (pre ++ (sv ++ slack)).toArray 45 (0, 0))]) Keeps.mem hmix rfl ?_
    refine to_p 0 rfl (by kernel_rfl) rfl (y_move (v := .pointer _) rfl) ?_
    refine to_p 1 rfl (by kernel_rfl) rfl (y_nilCheck rfl) ?_
    refine to_p 2 rfl (by kernel_rfl) rfl (y_fieldAddr rfl) ?_
    refine to_y 3 rfl (by kernel_rfl) rfl (y_load rfl rfl (.own inferInstance inferInstance)) ?_
    refine to_p 4 rfl (by kernel_rfl) rfl (y_fieldAddr rfl) ?_
    refine to_y 5 rfl (by kernel_rfl) rfl (y_load rfl rfl (.own inferInstance inferInstance)) ?_
    refine to_p 6 rfl (by kernel_rfl) rfl (y_move (v := .pointer _) rfl) ?_
    refine to_p 7 rfl (by kernel_rfl) rfl (y_nilCheck rfl) ?_
    refine to_p 8 rfl (by kernel_rfl) rfl (y_fieldAddr rfl) ?_
    refine to_y 9 rfl (by kernel_rfl) rfl (y_load rfl rfl (.own inferInstance inferInstance)) ?_
    refine to_p 10 rfl (by kernel_rfl) rfl (y_fieldAddr rfl) ?_
    refine to_y 11 rfl (by kernel_rfl) rfl (y_load rfl rfl (.own inferInstance inferInstance)) ?_
    refine to_p 12 rfl (by kernel_rfl) rfl (y_indexAddr (b := gs) (o := pre.length) (by rw [hsa]; rfl) rfl (by omega)) ?_
    refine to_y 13 rfl (by kernel_rfl) rfl (y_load rfl rfl (.ownAt (c := pre ++ (sv ++ slack)) inferInstance (by rw [List.getElem?_append_right (by omega), Nat.add_sub_cancel_left, List.getElem?_append_left (by omega), Nat.mul_one]; exact hvo))) ?_
    refine to_p 14 rfl (by kernel_rfl) rfl (y_fieldAddr rfl) ?_
    refine to_y 15 rfl (by kernel_rfl) rfl (y_load rfl rfl (.own inferInstance inferInstance)) ?_
    refine to_p 16 rfl (by kernel_rfl) rfl (y_move (v := .func _ _ _) rfl) ?_
    refine to_e 17 rfl (by kernel_rfl) rfl (e_callv rfl rfl (Con.to (chL x0 x1 Ac nc cc (nextAt cs k) ((b2, .cells (List.toArray [.int .i64 q.1, .slice A1 n1 c1]) 144 (0, 0)) :: (b1, .cells (List.toArray [.slice A n c, .int .i64 stop]) 66 (0, 0)) :: (p, .cells (List.toArray (dcells r S)) 134 (0, 0)) :: (gs, .cells (pre ++ (sv ++ slack)).toArray 45 (0, 0)) :: (r.E2 ++ R))) inferInstance (chooser1_spec (hcs.mono hM1) k (by omega))) (fun _ _ _ _ h => h.elim) ?_)
    rintro _ M2 L2 hM2 ⟨rfl, rfl, rfl⟩
    refine ⟨⟨(by first | exact Le.refl _ | assumption), Keeps.mem⟩, ?_⟩
    refine to_e 18 rfl (by kernel_rfl) rfl (e_call' rfl (after_spec hbo hb1 (by omega) (by omega) (nextC cs k)) ?_)
    rintro _ M3 L3 hM3 ⟨rfl, A3, c3, rfl, hA3⟩
    refine ⟨⟨(by first | exact Le.refl _ | assumption), Keeps.mem⟩, ?_⟩
    refine to_p 19 rfl (by kernel_rfl) rfl (y_indexAddr (b := gs) (o := pre.length) (by rw [hsa]; rfl) rfl (by omega)) ?_
    refine to_t 20 rfl (by kernel_rfl) (by kernel_rfl) rfl (e_storeAt (c := pre ++ (sv ++ slack)) rfl rfl rfl inferInstance (by simp; omega) inferInstance ?_)
    refine to_nil (by kernel_rfl) (.block_normal (.then_normal ?_))
    refine .dropTo (chL x0 x1 Ac nc cc (nextAt cs (k + 1)) ((b1, .cells (List.toArray [.slice A n c, .int .i64 stop]) 66 (0, 0)) :: (p, .cells (List.toArray (dcells r S)) 134 (0, 0)) :: (gs, .cells ((pre ++ (sv ++ slack)).set (pre.length + q.1.toNat * 1) (.slice A3 64 c3)).toArray 45 (0, 0)) :: (r.E2 ++ R))) inferInstance ?_
    refine .sub (F' := [(0, _), (5, _), (6, _), (14, _), (15, _), (16, _)]) (.cons rfl (.cons rfl (.cons rfl (.cons rfl (.cons rfl (.cons rfl .nil)))))) ?_
    refine x_region ?_
    refine tl_y rfl (y_addI rfl rfl (by omega)) ?_
    refine tl_y rfl (y_move (v := .int _ _) rfl) ?_
    refine tl_nil (.loop_next (m' := r.pn - (k + 1)) (by omega) (F' := [(0, _), (5, _), (6, _), (14, _), (15, _), (16, _)]) (.cons rfl (.cons rfl (.cons rfl (.cons rfl (.cons rfl (.cons rfl .nil)))))) ?_)
    exact ⟨k + 1, _, _, rfl, by omega, hM1.trans hM3, hsa ▸ hE.set (q.1.toNat * 1) (.slice A3 64 c3) (by omega), by
  rw [take_snoc _ _ default (by omega), upGo_snoc, hqe, Nat.mul_one, Nat.zero_add, List.length_take, Nat.min_eq_left (by omega)]; exact (hsv.mono hM3).set hA3 _, rfl, rfl, rfl⟩
  ·
    refine x_exit (.then_exit (.loop_exit (.block_exit (.then_normal ?_))))
    refine .sub (F' := [(0, _), (5, _)]) (.cons rfl (.cons rfl .nil)) ?_
    refine x_region ?_
    refine tl_y rfl (y_move (v := .pointer _) rfl) ?_
    refine tl_y rfl (y_move (v := .pointer _) rfl) ?_
    refine tl_y rfl (y_move (v := .pointer _) rfl) ?_
    refine tl_y rfl (y_move (v := .pointer _) rfl) ?_
    refine tl_y rfl (y_loadAgg rfl rfl (.own inferInstance inferInstance)) ?_
    refine tl_e rfl (e_call' rfl (own_spec (hx.mono hM1) hn stop) ?_)
    rintro _ M2 L2 hM2 ⟨rfl, A', c', rfl, hA'⟩
    refine tl_y rfl (y_nilCheck rfl) ?_
    refine tl_y rfl (y_fieldAddr rfl) ?_
    refine tl_e rfl (e_store rfl rfl (by rfl) (by rfl) inferInstance inferInstance inferInstance ?_)
    refine tl_y rfl (y_nilCheck rfl) ?_
    refine tl_y rfl (y_fieldAddr rfl) ?_
    refine tl_e rfl (e_store rfl rfl (by rfl) (by rfl) inferInstance inferInstance inferInstance ?_)
    refine tl_y rfl (y_nilCheck rfl) ?_
    refine tl_y rfl (y_fieldAddr rfl) ?_
    refine tl_e rfl (e_store rfl rfl (by rfl) (by rfl) inferInstance inferInstance inferInstance ?_)
    refine tl_y rfl (y_nilCheck rfl) ?_
    refine tl_y rfl (y_fieldAddr rfl) ?_
    refine tl_e rfl (e_store rfl rfl (by rfl) (by rfl) inferInstance inferInstance inferInstance ?_)
    refine tl_nil (.dropTo ((p, .cells (List.toArray [.slice r.sa r.sn r.sc, .slice none 0 0, .slice A' n c', .int .i64 stop, .int .i64 0, .bool false]) 134 (0, 0)) :: (E ++ R)) inferInstance (end0 rfl (hM1.trans hM2) (by
  have hkn : k = S.pend.length := by omega
  rw [hkn, List.take_length] at hsv
  exact ⟨{ r with sv := sv, E1 := E, pa := none, pn := 0, pc := 0, pv := [], E2 := [], fa := A', fn := n, fc := c' }, ⟨hE, .nil, hsv.mono hM2, .nil, hA', upGo_mem cs _ _ _ h.sl h.pl, (fun q hq => by cases hq), by show (upGo _ _ _ _).length ≤ 256; rw [upGo_length]; exact hsz⟩, rfl⟩)))
end
end Go.Proofs.YtbgdjdhbejbhkaaDoor
