/-
Contracts of functions, each proved by a walk through its code.
-/
import Derived.Test.YtbgdjdhbejbhkaaDoorSlotsPure
import Derived.Test.YtbgdjdhbejbhkaaDoorSha
set_option linter.unusedVariables false
set_option linter.unusedSimpArgs false
namespace Go.Proofs.YtbgdjdhbejbhkaaDoor
open Go Go.Eng
section
variable {G : World} {M : Mem} {L R : Own}
abbrev scells (d : Nat) (s : SS) (A : Option Addr) (l c : Nat) : List Value := [.pointer (some ⟨d, 0, none⟩), .int .i64 s.first, .int .i64 s.n, .int .i64 s.at_, .int .u64 (s.num.toNat : Int), .slice A l c]
abbrev sL (p d : Nat) (s : SS) (A : Option Addr) (l c : Nat) : Nat × Obj := (p, .cells (List.toArray (scells d s A l c)) 138 (0, 0))
def wrongv (e : Int) : Value := .iface 182 (.agg #[.int .i64 e])
def wrongs (e : Int) : List PanicEntry := [{ v := wrongv e, recovered := false }]
theorem well_spec (e : Int) :
    Con Tryd.prog 77 #[.int .i64 e] G M L (fun v M' L' => M = M' ∧ L = L' ∧ e = 0) (fun ch M' L' => M = M' ∧ L = L' ∧ ch = wrongs e ∧ e ≠ 0) := by
  refine enter (args := [_]) (fn := Tryd.f77) ⟨Tryd.func77, rfl, by kernel_rfl, by kernel_rfl⟩ 7 rfl ?_
  refine x_seq (x_region ?_)
  refine tl_y rfl (y_move (v := .int _ _) rfl) ?_
  refine tl_y rfl (y_neq rfl rfl) ?_
  refine tl_nil (.then_normal ?_)
  refine x_cond rfl (fun hc1 => ?_) (fun hc1 => ?_)
  ·
    refine x_region ?_
    refine tl_y rfl (y_move (v := .int _ _) rfl) ?_
    refine tl_y rfl (y_build rfl) ?_
    refine tl_y rfl (y_makeIface rfl (by intro _ h; cases h)) ?_
    refine tl_e rfl (e_panic rfl (.ret (Le.refl _) ⟨rfl, rfl, rfl, hc1⟩))
  ·
    refine x_skip (end0 rfl (Le.refl _) ⟨rfl, rfl, by omega⟩)
theorem caught1_ret {b : Nat} {o : Obj} : ConD Tryd.prog 113 #[.pointer (some ⟨b, 0, none⟩)] .returning G M ((b, o) :: L) (fun u' M' L' => u' = .returning ∧ M' = M ∧ L' = (b, o) :: L) := by
  refine enterRec (args := [_]) (fn := Tryd.f113) ⟨Tryd.func113, rfl, by kernel_rfl, by kernel_rfl⟩ 12 rfl rfl ?_
  refine x_block ?_
  refine x_seq (x_region ?_)
  refine tl_y rfl (y_eqNilIface rfl rfl) ?_
  refine tl_nil (.then_normal ?_)
  refine x_true rfl (rfl) ?_
  refine x_region ?_
  refine tl_y rfl (y_assign rfl) ?_
  refine tl_nil (.block_normal (.rec_normal (Le.refl _) ⟨rfl, rfl, rfl⟩))
theorem caught1_wrong {b : Nat} {x e : Int} : ConD Tryd.prog 113 #[.pointer (some ⟨b, 0, none⟩)] (.panicking (wrongs e)) G M ((b, .cells (List.toArray [.int .i64 x]) 28 (0, 0)) :: L)
    (fun u' M' L' => u' = .panicking [{ v := wrongv e, recovered := true }] ∧ M' = M ∧ L' = (b, .cells (List.toArray [.int .i64 e]) 28 (0, 0)) :: L) := by
  refine enterRec (args := [_]) (fn := Tryd.f113) ⟨Tryd.func113, rfl, by kernel_rfl, by kernel_rfl⟩ 12 rfl rfl ?_
  refine x_block ?_
  refine x_seq (x_region ?_)
  refine tl_y rfl (y_eqIfaceNil rfl rfl) ?_
  refine tl_nil (.then_normal ?_)
  refine x_false rfl (rfl) ?_
  refine x_seq (x_region ?_)
  refine tl_y rfl (y_assertOk rfl (by intro _ h; cases h)) ?_
  refine tl_y rfl (y_extract rfl) ?_
  refine tl_y rfl (y_extract rfl) ?_
  refine tl_nil (.then_normal ?_)
  refine x_true rfl (rfl) ?_
  refine x_seq (x_region ?_)
  refine tl_e rfl (e_alloc (fun b1 => ?_))
  refine tl_e rfl (e_store rfl rfl (by rfl) (by rfl) inferInstance inferInstance inferInstance ?_)
  refine tl_nil (.then_normal ?_)
  refine .sub (F' := [(0, _), (2, _)]) (.cons rfl (.cons rfl .nil)) ?_
  refine x_region ?_
  refine tl_y rfl (y_fieldAddr rfl) ?_
  refine tl_y rfl (y_load rfl rfl (.own inferInstance inferInstance)) ?_
  refine tl_e rfl (e_store rfl rfl (by rfl) (by rfl) inferInstance inferInstance inferInstance ?_)
  refine tl_nil (.block_normal (.dropTo ((b, .cells (List.toArray [.int .i64 e]) 28 (0, 0)) :: L) inferInstance (.rec_normal (Le.refl _) ⟨rfl, rfl, rfl⟩)))
theorem caught_spec {wf : FuncId} {first cap : List Value} {K : Mem → Own → Prop} {Kc : Int → Mem → Own → Prop}
    (hw : ∀ b o, Con Tryd.prog wf (first ++ [] ++ cap).toArray G M ((b, o) :: L) (fun v M' L' => ∃ L1, L' = (b, o) :: L1 ∧ K M' L1) (fun ch M' L' => ∃ e L1, ch = wrongs e ∧ L' = (b, o) :: L1 ∧ Kc e M' L1)) :
    Con Tryd.prog 74 #[.func (.func wf) first.toArray cap.toArray] G M L (fun v M' L' => (v = .int .i64 0 ∧ K M' L') ∨ (∃ e, v = .int .i64 e ∧ Kc e M' L')) noPanic := by
  refine enterD (args := [_]) (fn := Tryd.f74) ⟨Tryd.func74, rfl, by kernel_rfl, by kernel_rfl⟩ 6 rfl ?_
  refine x_seq (x_region ?_)
  refine tl_e rfl (e_alloc (fun b1 => ?_))
  refine tl_nil (.then_normal ?_)
  refine x_seq (x_region ?_)
  refine tl_y rfl (y_makeFunc rfl rfl) ?_
  refine tl_e rfl (e_defer rfl rfl rfl ?_)
  refine tl_nil (.then_normal ?_)
  refine x_seq (x_region ?_)
  refine tl_y rfl (y_move (v := .func _ _ _) rfl) ?_
  refine tl_e rfl (e_callv rfl rfl (hw b1 _) (by
  rintro _ M1 _ hM1 ⟨e, L1, rfl, rfl, hk⟩
  refine .retD (cap := [_]) (args := []) caught1_wrong ?_
  rintro _ M2 _ hM2 ⟨rfl, rfl, rfl⟩
  exact .inl ⟨rfl, _, L1, rv1 rfl (rc_cell (by rfl) rfl (.own inferInstance inferInstance)), inferInstance, hM1, .inr ⟨e, rfl, hk⟩⟩) ?_)
  rintro _ M1 _ hM1 ⟨L1, rfl, hk⟩
  refine tl_nil (.then_normal ?_)
  refine .sub (F' := [(2, _)]) (.cons rfl .nil) ?_
  refine x_seq (x_region ?_)
  refine tl_e rfl (e_store rfl rfl (by rfl) (by rfl) inferInstance inferInstance inferInstance ?_)
  refine tl_nil (.then_normal ?_)
  refine x_ret (.retD (cap := [_]) (args := []) caught1_ret ?_)
  rintro _ M2 _ hM2 ⟨rfl, rfl, rfl⟩
  exact .inl ⟨rfl, _, L1, rv1 rfl (rc_cell (by rfl) rfl (.own inferInstance inferInstance)), inferInstance, hM1, .inl ⟨rfl, hk⟩⟩
theorem Room_spec (n : Int) :
    Con Tryd.prog 24 #[.int .i64 n] G M L (fun v M' L' => M = M' ∧ L = L' ∧ v = .int .i64 (if n < 1 ∨ 8 < n then 0 else 64 * n - 28)) noPanic := by
  refine enter (args := [_]) (fn := Tryd.f24) ⟨Tryd.func24, rfl, by kernel_rfl, by kernel_rfl⟩ 14 rfl ?_
  refine x_seq (x_region ?_)
  refine tl_y rfl (y_assign rfl) ?_
  refine tl_nil (.then_normal ?_)
  refine x_seq (x_seq (x_region ?_))
  refine tl_y rfl (y_move (v := .int _ _) rfl) ?_
  refine tl_y rfl (y_lss rfl rfl) ?_
  refine tl_y rfl (y_move (v := .bool _) rfl) ?_
  refine tl_cases (s := 5) rfl (fun hk1 => ?_) (fun hk1 => ?_)
  ·
    refine tl_skip rfl ?_
    refine tl_skip rfl ?_
    refine tl_y rfl (y_pickT rfl rfl) ?_
    refine tl_nil (.then_normal ?_)
    refine .sub (F' := [(0, _), (8, _)]) (.cons rfl (.cons rfl .nil)) ?_
    refine x_true rfl rfl ?_
    refine x_seq (x_region ?_)
    refine tl_y rfl (y_assign rfl) ?_
    refine tl_nil (.then_normal ?_)
    refine x_ret (.then_ret (ret1 rfl rfl (Le.refl _) ⟨rfl, rfl, by rw [if_pos (by omega)]⟩))
  ·
    refine tl_y rfl (y_move (v := .int _ _) rfl) ?_
    refine tl_y rfl (y_gtr rfl rfl) ?_
    refine tl_y rfl (y_pickF rfl rfl) ?_
    refine tl_nil (.then_normal ?_)
    refine .sub (F' := [(0, _), (8, _)]) (.cons rfl (.cons rfl .nil)) ?_
    refine x_cond rfl (fun hc1 => ?_) (fun hc1 => ?_)
    ·
      refine x_seq (x_region ?_)
      refine tl_y rfl (y_assign rfl) ?_
      refine tl_nil (.then_normal ?_)
      refine x_ret (.then_ret (ret1 rfl rfl (Le.refl _) ⟨rfl, rfl, by rw [if_pos (by omega)]⟩))
    ·
      refine x_skip (.then_normal ?_)
      refine x_seq (x_region ?_)
      refine tl_y rfl (y_move (v := .int _ _) rfl) ?_
      refine tl_y rfl (y_mulI rfl rfl (by omega)) ?_
      refine tl_y rfl (y_subI rfl rfl (by omega)) ?_
      refine tl_y rfl (y_subI rfl rfl (by omega)) ?_
      refine tl_y rfl (y_subI rfl rfl (by omega)) ?_
      refine tl_y rfl (y_assign (v := .int _ _) rfl) ?_
      refine tl_nil (.then_normal ?_)
      refine .sub (F' := [(2, _)]) (.cons rfl .nil) ?_
      refine x_ret (ret1 rfl rfl (Le.refl _) ⟨rfl, rfl, by rw [if_neg (by omega)]; congr 1; omega⟩)
theorem bytesOf_spec (hg : ShaG M) {p d : Nat} {s : SS} {A0 : Option Addr} {l0 c0 : Nat} (hn : 1 ≤ s.n ∧ s.n ≤ 8) {num : UInt64} {A : Option Addr} {n c : Nat} {b : List UInt8} (h : Bytes M A n c b) (hb : b.length + 28 ≤ 64 * s.n) :
    Con Tryd.prog 76 #[.pointer (some ⟨p, 0, none⟩), .agg #[.int .u64 (num.toNat : Int), .slice A n c]] G M (sL p d s A0 l0 c0 :: R) (fun v M' L' => L' = sL p d s A0 l0 c0 :: R ∧ ∃ A' c', v = .slice A' (64 * s.n) c' ∧ Bytes M' A' (64 * s.n) c' (recB s.n num b)) noPanic := by
  have hbl := h.size
  have hx : (UInt64.ofInt (n : Int)).toNat = b.length := by rw [ofInt64, UInt64.toNat_ofNat']; omega
  refine enter (args := [_, _]) (fn := Tryd.f76) ⟨Tryd.func76, rfl, by kernel_rfl, by kernel_rfl⟩ 36 rfl ?_
  refine x_seq (x_region ?_)
  refine tl_e rfl (e_box rfl (fun b1 => ?_))
  refine tl_y rfl (y_assign rfl) ?_
  refine tl_nil (.then_normal ?_)
  refine x_seq ?_
  refine x_draw 13 hmix rfl ?_
  refine to_p 0 rfl (by kernel_rfl) rfl (y_fieldAddr rfl) ?_
  refine to_y 1 rfl (by kernel_rfl) rfl (y_load rfl rfl (.own inferInstance inferInstance)) ?_
  refine to_p 3 rfl (by kernel_rfl) rfl (y_fieldAddr rfl) ?_
  refine to_y 4 rfl (by kernel_rfl) rfl (y_load rfl rfl (.own inferInstance inferInstance)) ?_
  refine to_p 5 rfl (by kernel_rfl) rfl (y_len rfl) ?_
  refine to_p 6 rfl (by kernel_rfl) rfl (y_of64 rfl) ?_
  refine to_p 8 rfl (by kernel_rfl) rfl (y_fieldAddr rfl) ?_
  refine to_y 9 rfl (by kernel_rfl) rfl (y_load rfl rfl (.own inferInstance inferInstance)) ?_
  refine to_e 2 rfl (by kernel_rfl) rfl (e_call' rfl (PutN_spec num 8 (by omega)) ?_)
  rintro _ M1 _ hM1 ⟨rfl, A1, c1, rfl, hA1⟩
  refine ⟨⟨(by first | exact Le.refl _ | assumption), Keeps.mem⟩, ?_⟩
  refine to_e 7 rfl (by kernel_rfl) rfl (e_call' rfl (PutN_spec (UInt64.ofInt (n : Int)) 4 (by omega)) ?_)
  rintro _ M2 _ hM2 ⟨rfl, A2, c2, rfl, hA2⟩
  rw [hx] at hA2
  have hm := hM1.trans hM2
  refine ⟨⟨hm, Keeps.mem⟩, ?_⟩
  refine to_e 10 rfl (by kernel_rfl) rfl (e_buildSlice rfl (by decide) (fun b2 => ?_))
  refine ⟨⟨(by first | exact Le.refl _ | assumption), Keeps.mem⟩, ?_⟩
  refine .pub b2 inferInstance (fun M3 hM3 hb2 => ?_)
  replace hm := hm.trans hM3
  have hfl : [putB num.toNat 8, putB b.length 4, b].flatten = recH num b := by simp [recH]
  have hH := recH_length num b
  refine to_e 11 rfl (by kernel_rfl) rfl (e_call' rfl (Cat_spec (Row.whole hb2 rfl (by omega)) (.cons (hA1.mono (hM2.trans hM3)) (.cons (hA2.mono hM3) (.cons (h.mono hm) .nil))) (by rw [hfl, hH]; omega)) ?_)
  rintro _ M4 _ hM4 ⟨rfl, A4, c4, rfl, hA4⟩
  rw [hfl, hH] at hA4
  rw [hfl, hH]
  replace hm := hm.trans hM4
  refine ⟨⟨hm, Keeps.mem⟩, ?_⟩
  refine to_p 12 rfl (by kernel_rfl) rfl (y_assign (v := .slice _ _ _) rfl) ?_
  refine to_nil (by kernel_rfl) (.then_normal ?_)
  refine .sub (F' := [(0, _), (5, _)]) (.cons rfl (.cons rfl .nil)) ?_
  refine x_seq (x_region ?_)
  refine tl_y rfl (y_move (v := .slice _ _ _) rfl) ?_
  refine tl_y rfl (y_move (v := .slice _ _ _) rfl) ?_
  refine tl_e rfl (e_call' rfl (One_spec (hg.mono hm) hA4 (by omega)) ?_)
  rintro _ M5 _ hM5 ⟨rfl, A5, c5, rfl, hA5⟩
  replace hm := hm.trans hM5
  have hc5 := hA5.le
  have hT := hA5.take 16 (by omega)
  refine tl_y rfl (y_sliceH rfl rfl (by omega) (by omega)) ?_
  refine tl_e rfl (e_buildSlice rfl (by decide) (fun b3 => ?_))
  refine .pub b3 inferInstance (fun M6 hM6 hb3 => ?_)
  replace hm := hm.trans hM6
  have hfl2 : [recH num b, (sha (recH num b)).take 16].flatten = recH num b ++ (sha (recH num b)).take 16 := by simp
  have hH2 : (recH num b ++ (sha (recH num b)).take 16).length = 28 + b.length := by rw [List.length_append, hH, List.length_take, sha_length]; omega
  refine tl_e rfl (e_call' rfl (Cat_spec (Row.whole hb3 rfl (by omega)) (.cons (hA4.mono (hM5.trans hM6)) (.cons (hT.mono hM6) .nil)) (by rw [hfl2, hH2]; omega)) ?_)
  rintro _ M7 _ hM7 ⟨rfl, A7, c7, rfl, hA7⟩
  rw [hfl2, hH2] at hA7
  rw [hfl2, hH2]
  replace hm := hm.trans hM7
  refine tl_y rfl (y_assign (v := .slice _ _ _) rfl) ?_
  refine tl_nil (.then_normal ?_)
  refine .sub (F' := [(0, _), (5, _)]) (.cons rfl (.cons rfl .nil)) ?_
  refine x_seq (x_region ?_)
  refine tl_y rfl (y_move (v := .slice _ _ _) rfl) ?_
  refine tl_y rfl (y_move (v := .pointer _) rfl) ?_
  refine tl_y rfl (y_nilCheck rfl) ?_
  refine tl_y rfl (y_fieldAddr rfl) ?_
  refine tl_y rfl (y_load rfl rfl (.own inferInstance inferInstance)) ?_
  refine tl_y rfl (y_mulI rfl rfl (by omega)) ?_
  refine tl_y rfl (y_move (v := .slice _ _ _) rfl) ?_
  refine tl_y rfl (y_len rfl) ?_
  refine tl_y rfl (y_subI rfl rfl (by omega)) ?_
  refine tl_e rfl (e_make1 rfl rfl (by omega) (by omega) (by omega) (by omega) (fun b4 => ?_))
  refine tl_e rfl (e_buildSlice rfl (by decide) (fun b5 => ?_))
  refine .pub b4 inferInstance (fun M8 hM8 hb4 => ?_)
  refine .pub b5 inferInstance (fun M9 hM9 hb5 => ?_)
  replace hm := hm.trans (hM8.trans hM9)
  have hZ := (Bytes.zeros hb4 (by omega)).mono hM9
  have hzn : ((s.n : Int) * 64 - ((28 + b.length : Nat) : Int)).toNat = 64 * s.n - 28 - b.length := by omega
  have hfl3 : [recH num b ++ (sha (recH num b)).take 16, List.replicate ((s.n : Int) * 64 - ((28 + b.length : Nat) : Int)).toNat 0].flatten = recB s.n num b := by rw [hzn]; simp [recB]
  have hH3 := recB_length (num := num) hb
  refine tl_e rfl (e_call' rfl (Cat_spec (Row.whole hb5 (by rfl) (by omega)) (.cons (hA7.mono (hM8.trans hM9)) (.cons hZ .nil)) (by rw [hfl3, hH3]; omega)) ?_)
  rintro _ M10 _ hM10 ⟨rfl, A10, c10, rfl, hA10⟩
  rw [hfl3, hH3] at hA10
  rw [hfl3, hH3]
  replace hm := hm.trans hM10
  refine tl_y rfl (y_assign (v := .slice _ _ _) rfl) ?_
  refine tl_nil (.then_normal ?_)
  refine .sub (F' := [(4, _)]) (.cons rfl .nil) ?_
  refine x_ret (.dropTo (sL p d s A0 l0 c0 :: R) inferInstance (ret1 rfl rfl hm ⟨rfl, _, _, rfl, hA10⟩))
end
end Go.Proofs.YtbgdjdhbejbhkaaDoor
