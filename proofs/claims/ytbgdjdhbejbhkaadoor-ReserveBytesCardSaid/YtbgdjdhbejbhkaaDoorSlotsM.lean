/-
Contracts of functions, each proved by a walk through its code.
-/
import Derived.Test.YtbgdjdhbejbhkaaDoorSlotsPure
import Derived.Test.YtbgdjdhbejbhkaaDoorSha
set_option linter.unusedVariables false
set_option linter.unusedSimpArgs false
namespace Go.Proofs.YtbgdjdhbejbhkaaDoor
open Go Go.Eng
section
variable {G : World} {M : Mem} {L R : Own}
abbrev scells (d : Nat) (s : SS) (A : Option Addr) (l c : Nat) : List Value := [.pointer (some ⟨d, 0, none⟩), .int .i64 s.first, .int .i64 s.n, .int .i64 s.at_, .int .u64 (s.num.toNat : Int), .slice A l c]
abbrev sL (p d : Nat) (s : SS) (A : Option Addr) (l c : Nat) : Nat × Obj := (p, .cells (List.toArray (scells d s A l c)) 138 (0, 0))
def wrongv (e : Int) : Value := .iface 182 (.agg #[.int .i64 e])
def wrongs (e : Int) : List PanicEntry := [{ v := wrongv e, recovered := false }]
theorem well_spec (e : Int) :
    Con Tryd.prog 77 #[.int .i64 e] G M L (fun v M' L' => M = M' ∧ L = L' ∧ e = 0) (fun ch M' L' => M = M' ∧ L = L' ∧ ch = wrongs e ∧ e ≠ 0) := by
  refine enter (args := [_]) (fn := Tryd.f77) ⟨Tryd.func77, rfl, by kernel_rfl, by kernel_rfl⟩ 7 rfl ?_
  refine x_seq (x_region ?_)
  refine tl_y rfl (y_move (v := .int _ _) rfl) ?_
  refine tl_y rfl (y_neq rfl rfl) ?_
  refine tl_nil (.then_normal ?_)
  refine x_cond rfl (fun hc1 => ?_) (fun hc1 => ?_)
  ·
    refine x_region ?_
    refine tl_y rfl (y_move (v := .int _ _) rfl) ?_
    refine tl_y rfl (y_build rfl) ?_
    refine tl_y rfl (y_makeIface rfl (by intro _ h; cases h)) ?_
    refine tl_e rfl (e_panic rfl (.ret (Le.refl _) ⟨rfl, rfl, rfl, hc1⟩))
  ·
    refine x_skip (end0 rfl (Le.refl _) ⟨rfl, rfl, by omega⟩)
theorem caught1_ret {b : Nat} {o : Obj} : ConD Tryd.prog 113 #[.pointer (some ⟨b, 0, none⟩)] .returning G M ((b, o) :: L) (fun u' M' L' => u' = .returning ∧ M' = M ∧ L' = (b, o) :: L) := by
  refine enterRec (args := [_]) (fn := Tryd.f113) ⟨Tryd.func113, rfl, by kernel_rfl, by kernel_rfl⟩ 12 rfl rfl ?_
  refine x_block ?_
  refine x_seq (x_region ?_)
  refine tl_y rfl (y_eqNilIface rfl rfl) ?_
  refine tl_nil (.then_normal ?_)
  refine x_true rfl (rfl) ?_
  refine x_region ?_
  refine tl_y rfl (y_assign rfl) ?_
  refine tl_nil (.block_normal (.rec_normal (Le.refl _) ⟨rfl, rfl, rfl⟩))
theorem caught1_wrong {b : Nat} {x e : Int} : ConD Tryd.prog 113 #[.pointer (some ⟨b, 0, none⟩)] (.panicking (wrongs e)) G M ((b, .cells (List.toArray [.int .i64 x]) 28 (0, 0)) :: L)
    (fun u' M' L' => u' = .panicking [{ v := wrongv e, recovered := true }] ∧ M' = M ∧ L' = (b, .cells (List.toArray [.int .i64 e]) 28 (0, 0)) :: L) := by
  refine enterRec (args := [_]) (fn := Tryd.f113) ⟨Tryd.func113, rfl, by kernel_rfl, by kernel_rfl⟩ 12 rfl rfl ?_
  refine x_block ?_
  refine x_seq (x_region ?_)
  refine tl_y rfl (y_eqIfaceNil rfl rfl) ?_
  refine tl_nil (.then_normal ?_)
  refine x_false rfl (rfl) ?_
  refine x_seq (x_region ?_)
  refine tl_y rfl (y_assertOk rfl (by intro _ h; cases h)) ?_
  refine tl_y rfl (y_extract rfl) ?_
  refine tl_y rfl (y_extract rfl) ?_
  refine tl_nil (.then_normal ?_)
  refine x_true rfl (rfl) ?_
  refine x_seq (x_region ?_)
  refine tl_e rfl (e_alloc (fun b1 => ?_))
  refine tl_e rfl (e_store rfl rfl (by rfl) (by rfl) inferInstance inferInstance inferInstance ?_)
  refine tl_nil (.then_normal ?_)
  refine .sub (F' := [(0, _), (2, _)]) (.cons rfl (.cons rfl .nil)) ?_
  refine x_region ?_
  refine tl_y rfl (y_fieldAddr rfl) ?_
  refine tl_y rfl (y_load rfl rfl (.own inferInstance inferInstance)) ?_
  refine tl_e rfl (e_store rfl rfl (by rfl) (by rfl) inferInstance inferInstance inferInstance ?_)
  refine tl_nil (.block_normal (.dropTo ((b, .cells (List.toArray [.int .i64 e]) 28 (0, 0)) :: L) inferInstance (.rec_normal (Le.refl _) ⟨rfl, rfl, rfl⟩)))
theorem caught_spec {wf : FuncId} {first cap : List Value} {K : Mem → Own → Prop} {Kc : Int → Mem → Own → Prop}
    (hw : ∀ b o, Con Tryd.prog wf (first ++ [] ++ cap).toArray G M ((b, o) :: L) (fun v M' L' => ∃ L1, L' = (b, o) :: L1 ∧ K M' L1) (fun ch M' L' => ∃ e L1, ch = wrongs e ∧ L' = (b, o) :: L1 ∧ Kc e M' L1)) :
    Con Tryd.prog 74 #[.func (.func wf) first.toArray cap.toArray] G M L (fun v M' L' => (v = .int .i64 0 ∧ K M' L') ∨ (∃ e, v = .int .i64 e ∧ Kc e M' L')) noPanic := by
  refine enterD (args := [_]) (fn := Tryd.f74) ⟨Tryd.func74, rfl, by kernel_rfl, by kernel_rfl⟩ 6 rfl ?_
  refine x_seq (x_region ?_)
  refine tl_e rfl (e_alloc (fun b1 => ?_))
  refine tl_nil (.then_normal ?_)
  refine x_seq (x_region ?_)
  refine tl_y rfl (y_makeFunc rfl rfl) ?_
  refine tl_e rfl (e_defer rfl rfl rfl ?_)
  refine tl_nil (.then_normal ?_)
  refine x_seq (x_region ?_)
  refine tl_y rfl (y_move (v := .func _ _ _) rfl) ?_
  refine tl_e rfl (e_callv rfl rfl (hw b1 _) (by
  rintro _ M1 _ hM1 ⟨e, L1, rfl, rfl, hk⟩
  refine .retD (cap := [_]) (args := []) caught1_wrong ?_
  rintro _ M2 _ hM2 ⟨rfl, rfl, rfl⟩
  exact .inl ⟨rfl, _, L1, rv1 rfl (rc_cell (by rfl) rfl (.own inferInstance inferInstance)), inferInstance, hM1, .inr ⟨e, rfl, hk⟩⟩) ?_)
  rintro _ M1 _ hM1 ⟨L1, rfl, hk⟩
  refine tl_nil (.then_normal ?_)
  refine .sub (F' := [(2, _)]) (.cons rfl .nil) ?_
  refine x_seq (x_region ?_)
  refine tl_e rfl (e_store rfl rfl (by rfl) (by rfl) inferInstance inferInstance inferInstance ?_)
  refine tl_nil (.then_normal ?_)
  refine x_ret (.retD (cap := [_]) (args := []) caught1_ret ?_)
  rintro _ M2 _ hM2 ⟨rfl, rfl, rfl⟩
  exact .inl ⟨rfl, _, L1, rv1 rfl (rc_cell (by rfl) rfl (.own inferInstance inferInstance)), inferInstance, hM1, .inl ⟨rfl, hk⟩⟩
theorem Room_spec (n : Int) :
    Con Tryd.prog 24 #[.int .i64 n] G M L (fun v M' L' => M = M' ∧ L = L' ∧ v = .int .i64 (if n < 1 ∨ 8 < n then 0 else 64 * n - 28)) noPanic := by
  refine enter (args := [_]) (fn := Tryd.f24) ⟨Tryd.func24, rfl, by kernel_rfl, by kernel_rfl⟩ 14 rfl ?_
  refine x_seq (x_region ?_)
  refine tl_y rfl (y_assign rfl) ?_
  refine tl_nil (.then_normal ?_)
  refine x_seq (x_seq (x_region ?_))
  refine tl_y rfl (y_move (v := .int _ _) rfl) ?_
  refine tl_y rfl (y_lss rfl rfl) ?_
  refine tl_y rfl (y_move (v := .bool _) rfl) ?_
  refine tl_cases (s := 5) rfl (fun hk1 => ?_) (fun hk1 => ?_)
  ·
    refine tl_skip rfl ?_
    refine tl_skip rfl ?_
    refine tl_y rfl (y_pickT rfl rfl) ?_
    refine tl_nil (.then_normal ?_)
    refine .sub (F' := [(0, _), (8, _)]) (.cons rfl (.cons rfl .nil)) ?_
    refine x_true rfl rfl ?_
    refine x_seq (x_region ?_)
    refine tl_y rfl (y_assign rfl) ?_
    refine tl_nil (.then_normal ?_)
    refine x_ret (.then_ret (ret1 rfl rfl (Le.refl _) ⟨rfl, rfl, by rw [if_pos (by omega)]⟩))
  ·
    refine tl_y rfl (y_move (v := .int _ _) rfl) ?_
    refine tl_y rfl (y_gtr rfl rfl) ?_
    refine tl_y rfl (y_pickF rfl rfl) ?_
    refine tl_nil (.then_normal ?_)
    refine .sub (F' := [(0, _), (8, _)]) (.cons rfl (.cons rfl .nil)) ?_
    refine x_cond rfl (fun hc1 => ?_) (fun hc1 => ?_)
    ·
      refine x_seq (x_region ?_)
      refine tl_y rfl (y_assign rfl) ?_
      refine tl_nil (.then_normal ?_)
      refine x_ret (.then_ret (ret1 rfl rfl (Le.refl _) ⟨rfl, rfl, by rw [if_pos (by omega)]⟩))
    ·
      refine x_skip (.then_normal ?_)
      refine x_seq (x_region ?_)
      refine tl_y rfl (y_move (v := .int _ _) rfl) ?_
      refine tl_y rfl (y_mulI rfl rfl (by omega)) ?_
      refine tl_y rfl (y_subI rfl rfl (by omega)) ?_
      refine tl_y rfl (y_subI rfl rfl (by omega)) ?_
      refine tl_y rfl (y_subI rfl rfl (by omega)) ?_
      refine tl_y rfl (y_assign (v := .int _ _) rfl) ?_
      refine tl_nil (.then_normal ?_)
      refine .sub (F' := [(2, _)]) (.cons rfl .nil) ?_
      refine x_ret (ret1 rfl rfl (Le.refl _) ⟨rfl, rfl, by rw [if_neg (by omega)]; congr 1; omega⟩)
theorem bytesOf_spec (hg : ShaG M) {p d : Nat} {s : SS} {A0 : Option Addr} {l0 c0 : Nat} (hn : 1 ≤ s.n ∧ s.n ≤ 8) {num : UInt64} {A : Option Addr} {n c : Nat} {b : List UInt8} (h : Bytes M A n c b) (hb : b.length + 28 ≤ 64 * s.n) :
    Con Tryd.prog 76 #[.pointer (some ⟨p, 0, none⟩), .agg #[.int .u64 (num.toNat : Int), .slice A n c]] G M (sL p d s A0 l0 c0 :: R) (fun v M' L' => L' = sL p d s A0 l0 c0 :: R ∧ ∃ A' c', v = .slice A' (64 * s.n) c' ∧ Bytes M' A' (64 * s.n) c' (recB s.n num b)) noPanic := by
  have hbl := h.size
  have hx : (UInt64.ofInt (n : Int)).toNat = b.length := by rw [ofInt64, UInt64.toNat_ofNat']; omega
  refine enter (args := [_, _]) (fn := Tryd.f76) ⟨Tryd.func76, rfl, by kernel_rfl, by kernel_rfl⟩ 36 rfl ?_
  refine x_seq (x_region ?_)
  refine tl_e rfl (e_box rfl (fun b1 => ?_))
  refine tl_y rfl (y_assign rfl) ?_
  refine tl_nil (.then_normal ?_)
  refine x_seq ?_
  refine x_draw 13 hmix rfl ?_
  refine to_p 0 rfl (by kernel_rfl) rfl (y_fieldAddr rfl) ?_
  refine to_y 1 rfl (by kernel_rfl) rfl (y_load rfl rfl (.own inferInstance inferInstance)) ?_
  refine to_p 3 rfl (by kernel_rfl) rfl (y_fieldAddr rfl) ?_
  refine to_y 4 rfl (by kernel_rfl) rfl (y_load rfl rfl (.own inferInstance inferInstance)) ?_
  refine to_p 5 rfl (by kernel_rfl) rfl (y_len rfl) ?_
  refine to_p 6 rfl (by kernel_rfl) rfl (y_of64 rfl) ?_
  refine to_p 8 rfl (by kernel_rfl) rfl (y_fieldAddr rfl) ?_
  refine to_y 9 rfl (by kernel_rfl) rfl (y_load rfl rfl (.own inferInstance inferInstance)) ?_
  refine to_e 2 rfl (by kernel_rfl) rfl (e_call' rfl (PutN_spec num 8 (by omega)) ?_)
  rintro _ M1 _ hM1 ⟨rfl, A1, c1, rfl, hA1⟩
  refine ⟨⟨(by first | exact Le.refl _ | assumption), Keeps.mem⟩, ?_⟩
  refine to_e 7 rfl (by kernel_rfl) rfl (e_call' rfl (PutN_spec (UInt64.ofInt (n : Int)) 4 (by omega)) ?_)
  rintro _ M2 _ hM2 ⟨rfl, A2, c2, rfl, hA2⟩
  rw [hx] at hA2
  have hm := hM1.trans hM2
  refine ⟨⟨hm, Keeps.mem⟩, ?_⟩
  refine to_e 10 rfl (by kernel_rfl) rfl (e_buildSlice rfl (by decide) (fun b2 => ?_))
  refine ⟨⟨(by first | exact Le.refl _ | assumption), Keeps.mem⟩, ?_⟩
  refine .pub b2 inferInstance (fun M3 hM3 hb2 => ?_)
  replace hm := hm.trans hM3
  have hfl : [putB num.toNat 8, putB b.length 4, b].flatten = recH num b := by simp [recH]
  have hH := recH_length num b
  refine to_e 11 rfl (by kernel_rfl) rfl (e_call' rfl (Cat_spec (Row.whole hb2 rfl (by omega)) (.cons (hA1.mono (hM2.trans hM3)) (.cons (hA2.mono hM3) (.cons (h.mono hm) .nil))) (by rw [hfl, hH]; omega)) ?_)
  rintro _ M4 _ hM4 ⟨rfl, A4, c4, rfl, hA4⟩
  rw [hfl, hH] at hA4
  rw [hfl, hH]
  replace hm := hm.trans hM4
  refine ⟨⟨hm, Keeps.mem⟩, ?_⟩
  refine to_p 12 rfl (by kernel_rfl) rfl (y_assign (v := .slice _ _ _) rfl) ?_
  refine to_nil (by kernel_rfl) (.then_normal ?_)
  refine .sub (F' := [(0, _), (5, _)]) (.cons rfl (.cons rfl .nil)) ?_
  refine x_seq (x_region ?_)
  refine tl_y rfl (y_move (v := .slice _ _ _) rfl) ?_
  refine tl_y rfl (y_move (v := .slice _ _ _) rfl) ?_
  refine tl_e rfl (e_call' rfl (One_spec (hg.mono hm) hA4 (by omega)) ?_)
  rintro _ M5 _ hM5 ⟨rfl, A5, c5, rfl, hA5⟩
  replace hm := hm.trans hM5
  have hc5 := hA5.le
  have hT := hA5.take 16 (by omega)
  refine tl_y rfl (y_sliceH rfl rfl (by omega) (by omega)) ?_
  refine tl_e rfl (e_buildSlice rfl (by decide) (fun b3 => ?_))
  refine .pub b3 inferInstance (fun M6 hM6 hb3 => ?_)
  replace hm := hm.trans hM6
  have hfl2 : [recH num b, (sha (recH num b)).take 16].flatten = recH num b ++ (sha (recH num b)).take 16 := by simp
  have hH2 : (recH num b ++ (sha (recH num b)).take 16).length = 28 + b.length := by rw [List.length_append, hH, List.length_take, sha_length]; omega
  refine tl_e rfl (e_call' rfl (Cat_spec (Row.whole hb3 rfl (by omega)) (.cons (hA4.mono (hM5.trans hM6)) (.cons (hT.mono hM6) .nil)) (by rw [hfl2, hH2]; omega)) ?_)
  rintro _ M7 _ hM7 ⟨rfl, A7, c7, rfl, hA7⟩
  rw [hfl2, hH2] at hA7
  rw [hfl2, hH2]
  replace hm := hm.trans hM7
  refine tl_y rfl (y_assign (v := .slice _ _ _) rfl) ?_
  refine tl_nil (.then_normal ?_)
  refine .sub (F' := [(0, _), (5, _)]) (.cons rfl (.cons rfl .nil)) ?_
  refine x_seq (x_region ?_)
  refine tl_y rfl (y_move (v := .slice _ _ _) rfl) ?_
  refine tl_y rfl (y_move (v := .pointer _) rfl) ?_
  refine tl_y rfl (y_nilCheck rfl) ?_
  refine tl_y rfl (y_fieldAddr rfl) ?_
  refine tl_y rfl (y_load rfl rfl (.own inferInstance inferInstance)) ?_
  refine tl_y rfl (y_mulI rfl rfl (by omega)) ?_
  refine tl_y rfl (y_move (v := .slice _ _ _) rfl) ?_
  refine tl_y rfl (y_len rfl) ?_
  refine tl_y rfl (y_subI rfl rfl (by omega)) ?_
  refine tl_e rfl (e_make1 rfl rfl (by omega) (by omega) (by omega) (by omega) (fun b4 => ?_))
  refine tl_e rfl (e_buildSlice rfl (by decide) (fun b5 => ?_))
  refine .pub b4 inferInstance (fun M8 hM8 hb4 => ?_)
  refine .pub b5 inferInstance (fun M9 hM9 hb5 => ?_)
  replace hm := hm.trans (hM8.trans hM9)
  have hZ := (Bytes.zeros hb4 (by omega)).mono hM9
  have hzn : ((s.n : Int) * 64 - ((28 + b.length : Nat) : Int)).toNat = 64 * s.n - 28 - b.length := by omega
  have hfl3 : [recH num b ++ (sha (recH num b)).take 16, List.replicate ((s.n : Int) * 64 - ((28 + b.length : Nat) : Int)).toNat 0].flatten = recB s.n num b := by rw [hzn]; simp [recB]
  have hH3 := recB_length (num := num) hb
  refine tl_e rfl (e_call' rfl (Cat_spec (Row.whole hb5 (by rfl) (by omega)) (.cons (hA7.mono (hM8.trans hM9)) (.cons hZ .nil)) (by rw [hfl3, hH3]; omega)) ?_)
  rintro _ M10 _ hM10 ⟨rfl, A10, c10, rfl, hA10⟩
  rw [hfl3, hH3] at hA10
  rw [hfl3, hH3]
  replace hm := hm.trans hM10
  refine tl_y rfl (y_assign (v := .slice _ _ _) rfl) ?_
  refine tl_nil (.then_normal ?_)
  refine .sub (F' := [(4, _)]) (.cons rfl .nil) ?_
  refine x_ret (.dropTo (sL p d s A0 l0 c0 :: R) inferInstance (ret1 rfl rfl hm ⟨rfl, _, _, rfl, hA10⟩))
end
end Go.Proofs.YtbgdjdhbejbhkaaDoor
set_option linter.unusedVariables false
set_option linter.unusedSimpArgs false
namespace Go.Proofs.YtbgdjdhbejbhkaaDoor
open Go Go.Eng
section
variable {G : World} {M : Mem} {L R : Own}
theorem blank1_spec (c : UInt8) :
    Con Tryd.prog 145 #[.int .u8 (c.toNat : Int)] G M L (fun v M' L' => M = M' ∧ L = L' ∧ v = .bool (decide (c ≠ 0))) noPanic := by
  refine enter (args := [_]) (fn := Tryd.f145) ⟨Tryd.func145, rfl, by kernel_rfl, by kernel_rfl⟩ 5 rfl ?_
  refine x_seq (x_region ?_)
  refine tl_y rfl (y_assign rfl) ?_
  refine tl_nil (.then_normal ?_)
  refine x_seq (x_region ?_)
  refine tl_y rfl (y_move (v := .int _ _) rfl) ?_
  refine tl_y rfl (y_neq rfl rfl) ?_
  refine tl_y rfl (y_assign (v := .bool _) rfl) ?_
  refine tl_nil (.then_normal ?_)
  refine x_ret (ret1 rfl rfl (Le.refl _) ⟨rfl, rfl, by
  congr 1
  rw [decide_eq_decide]
  constructor
  · rintro h rfl; exact h rfl
  · intro h e; exact h (UInt8.toNat_inj.1 (by simpa using e))⟩)
theorem indexFunc_spec {A : Option Addr} {n c : Nat} {bs : List UInt8} (h : Bytes M A n c bs) :
    Con Tryd.prog 164 #[.slice A n c, .func (.func 145) #[] #[]] G M L (fun v M' L' => M = M' ∧ L = L' ∧ ∃ r : Int, v = .int .i64 r ∧ (0 ≤ r ↔ isBlank bs = false)) noPanic := by
  have hs := h.size
  have hmx := h.max
  have hle := h.le
  refine enter (args := [_, _]) (fn := Tryd.f164) ⟨Tryd.func164, rfl, by kernel_rfl, by kernel_rfl⟩ 19 rfl ?_
  refine x_seq (x_region ?_)
  refine tl_y rfl (y_assign rfl) ?_
  refine tl_nil (.then_normal ?_)
  refine x_seq (x_seq (x_region ?_))
  refine tl_y rfl (y_move (v := .slice _ _ _) rfl) ?_
  refine tl_y rfl (y_len rfl) ?_
  refine tl_y rfl (y_move rfl) ?_
  refine tl_nil (.then_normal ?_)
  refine x_block ?_
  refine x_loop (I := fun m' F D M1 L1 => ∃ k : Nat, m' = n - k ∧ k ≤ n ∧ isBlank (bs.take k) = true ∧ D = [] ∧ M = M1 ∧ L = L1 ∧ F = [(0, .slice A n c), (1, .func (.func 145) (List.toArray []) (List.toArray [])), (4, .int .i64 0), (7, .int .i64 n), (8, .int .i64 k)]) (n) (F0 := [(0, _), (1, _), (4, _), (7, _), (8, _)]) ?_ (.cons rfl (.cons rfl (.cons rfl (.cons rfl (.cons rfl .nil))))) ?_  -- slots [0, 1, 4, 7, 8], written [4, 8]
  · exact ⟨0, rfl, by omega, rfl, rfl, rfl, rfl, rfl⟩
  rintro m _ _ M1 L1 ⟨k, rfl, hk, hb, rfl, rfl, rfl, rfl⟩
  refine x_seq (x_region ?_)
  refine tl_y rfl (y_lss rfl rfl) ?_
  refine tl_nil (.then_normal ?_)
  refine x_seq ?_
  refine x_cond rfl (fun hc1 => ?_) (fun hc1 => ?_)
  ·
    have hkn : k < n := by omega
    obtain ⟨g, o, rfl, hca⟩ := h.byte (by omega)
    refine x_skip (.then_normal ?_)
    refine x_seq ?_
    refine x_block ?_
    refine x_seq (x_region ?_)
    refine tl_y rfl (y_move (v := .int _ _) rfl) ?_
    refine tl_y rfl (y_assign (v := .int _ _) rfl) ?_
    refine tl_nil (.then_normal ?_)
    refine x_seq (x_region ?_)
    refine tl_y rfl (y_move (v := .func _ _ _) rfl) ?_
    refine tl_y rfl (y_move (v := .slice _ _ _) rfl) ?_
    refine tl_y rfl (y_move (v := .int _ _) rfl) ?_
    refine tl_y rfl (y_indexAddr rfl rfl (by omega)) ?_
    refine tl_y rfl (y_load rfl rfl (.at_ (hca _ k hkn) (by omega))) ?_
    refine tl_e rfl (e_callv rfl rfl (blank1_spec (bs.getD k 0)) (fun _ _ _ _ h => h.elim) ?_)
    rintro _ _ _ _ ⟨rfl, rfl, rfl⟩
    refine tl_nil (.then_normal ?_)
    refine .sub (F' := [(0, _), (1, _), (4, _), (5, _), (7, _), (8, _), (16, _)]) (.cons rfl (.cons rfl (.cons rfl (.cons rfl (.cons rfl (.cons rfl (.cons rfl .nil))))))) ?_
    refine x_cond rfl (fun hc2 => ?_) (fun hc2 => ?_)
    ·
      refine x_seq (x_region ?_)
      refine tl_y rfl (y_move (v := .int _ _) rfl) ?_
      refine tl_y rfl (y_assign (v := .int _ _) rfl) ?_
      refine tl_nil (.then_normal ?_)
      refine x_ret (.block_ret (.then_ret (.loop_ret (.block_ret (.then_ret (ret1 rfl rfl (Le.refl _) ⟨rfl, rfl, _, rfl, iff_of_true (by omega) (by
  rw [Bool.eq_false_iff]
  intro hall
  have := List.all_eq_true.1 hall _ (getD_mem bs k 0 (by omega))
  exact hc2 (by simpa using this))⟩))))))
    ·
      refine x_skip (.block_normal (.then_normal ?_))
      refine x_region ?_
      refine tl_y rfl (y_addI rfl rfl (by omega)) ?_
      refine tl_y rfl (y_move (v := .int _ _) rfl) ?_
      refine tl_nil (.loop_next (m' := n - (k + 1)) (by omega) (F' := [(0, _), (1, _), (4, _), (7, _), (8, _)]) (.cons rfl (.cons rfl (.cons rfl (.cons rfl (.cons rfl .nil))))) ?_)
      exact ⟨k + 1, rfl, by omega, by
  have h1 : bs.getD k 0 = 0 := Classical.not_not.1 hc2
  rw [take_snoc bs k 0 (by omega), h1]
  unfold isBlank at hb ⊢
  rw [List.all_append, hb]
  rfl, rfl, rfl, rfl, rfl⟩
  ·
    refine x_exit (.then_exit (.loop_exit (.block_exit (.then_normal ?_))))
    refine .sub (F' := []) .nil ?_
    refine x_seq (x_region ?_)
    refine tl_y rfl (y_assign rfl) ?_
    refine tl_nil (.then_normal ?_)
    refine x_ret (ret1 rfl rfl (Le.refl _) ⟨rfl, rfl, _, rfl, iff_of_false (by omega) (by
  rw [List.take_of_length_le (by omega)] at hb
  rw [hb]; simp)⟩)
theorem blank_spec {A : Option Addr} {n c : Nat} {bs : List UInt8} (h : Bytes M A n c bs) :
    Con Tryd.prog 118 #[.slice A n c] G M L (fun v M' L' => M = M' ∧ L = L' ∧ v = .bool (isBlank bs)) noPanic := by
  have hcf : Con Tryd.prog 144 #[.slice A n c, .func (.func 145) #[] #[]] G M L (fun v M' L' => M = M' ∧ L = L' ∧ v = .bool (!isBlank bs)) noPanic := by
    refine enter (args := [_, _]) (fn := Tryd.f144) ⟨Tryd.func144, rfl, by kernel_rfl, by kernel_rfl⟩ 9 rfl ?_
    refine x_seq (x_region ?_)
    refine tl_y rfl (y_assign rfl) ?_
    refine tl_nil (.then_normal ?_)
    refine x_seq (x_region ?_)
    refine tl_y rfl (y_move (v := .slice _ _ _) rfl) ?_
    refine tl_y rfl (y_move (v := .func _ _ _) rfl) ?_
    refine tl_e rfl (e_call' rfl (indexFunc_spec h) ?_)
    rintro _ _ _ _ ⟨rfl, rfl, r, rfl, hr⟩
    refine tl_y rfl (y_geq rfl rfl) ?_
    refine tl_y rfl (y_assign (v := .bool _) rfl) ?_
    refine tl_nil (.then_normal ?_)
    refine .sub (F' := [(4, _)]) (.cons rfl .nil) ?_
    refine x_ret (ret1 rfl rfl (Le.refl _) ⟨rfl, rfl, by
  congr 1
  cases hb : isBlank bs with
  | true => rw [hb] at hr; simp at hr; simp; omega
  | false => rw [hb] at hr; simp at hr; simp; omega⟩)
  refine enter (args := [_]) (fn := Tryd.f118) ⟨Tryd.func118, rfl, by kernel_rfl, by kernel_rfl⟩ 6 rfl ?_
  refine x_seq (x_region ?_)
  refine tl_y rfl (y_assign rfl) ?_
  refine tl_nil (.then_normal ?_)
  refine x_seq (x_region ?_)
  refine tl_y rfl (y_move (v := .slice _ _ _) rfl) ?_
  refine tl_e rfl (e_call' rfl hcf ?_)
  rintro _ _ _ _ ⟨rfl, rfl, rfl⟩
  refine tl_y rfl (y_not rfl) ?_
  refine tl_y rfl (y_assign (v := .bool _) rfl) ?_
  refine tl_nil (.then_normal ?_)
  refine .sub (F' := [(2, _)]) (.cons rfl .nil) ?_
  refine x_ret (ret1 rfl rfl (Le.refl _) ⟨rfl, rfl, by simp⟩)
theorem area_spec {p d : Nat} {r : DRep} {S : DS} {s : SS} {A0 : Option Addr} {l0 c0 : Nat} (h : IsDisk M r S) (ok : OkS S s) (i : Nat) (hi : i ≤ 1) :
    Con Tryd.prog 116 #[.pointer (some ⟨p, 0, none⟩), .int .i64 (i : Int)] G M (dL d r S (sL p d s A0 l0 c0 :: R))
      (fun v M' L' => S.down = false ∧ L' = dL d r S (sL p d s A0 l0 c0 :: R) ∧ ∃ A c, v = .slice A (64 * s.n) c ∧ Bytes M' A (64 * s.n) c (areaB S (s.first + i * s.n) s.n))
      (fun ch M' L' => S.down = true ∧ L' = dL d r S (sL p d s A0 l0 c0 :: R) ∧ ch = wrongs 6) := by
  have hn := ok.n
  have hin := ok.in_
  have hsz := h.sz
  have hmul : (i : Int) * (s.n : Int) = ((i * s.n : Nat) : Int) := by simp
  have hq := Nat.mul_le_mul_right s.n hi
  generalize i * s.n = q at hmul hq
  refine enter (args := [_, _]) (fn := Tryd.f116) ⟨Tryd.func116, rfl, by kernel_rfl, by kernel_rfl⟩ 44 rfl ?_
  refine x_seq (x_region ?_)
  refine tl_y rfl (y_assign rfl) ?_
  refine tl_nil (.then_normal ?_)
  refine x_seq (x_region ?_)
  refine tl_y rfl (y_assign rfl) ?_
  refine tl_nil (.then_normal ?_)
  refine x_seq (x_seq (x_region ?_))
  refine tl_y rfl (y_move (v := .pointer _) rfl) ?_
  refine tl_y rfl (y_nilCheck rfl) ?_
  refine tl_y rfl (y_fieldAddr rfl) ?_
  refine tl_y rfl (y_load rfl rfl (.own inferInstance inferInstance)) ?_
  refine tl_y rfl (y_move rfl) ?_
  refine tl_nil (.then_normal ?_)
  refine .sub (F' := [(0, _), (1, _), (5, _), (12, _), (13, _)]) (.cons rfl (.cons rfl (.cons rfl (.cons rfl (.cons rfl .nil))))) ?_
  refine x_block ?_
  refine x_loop (I := fun m' F D M1 L1 => ∃ (k : Nat) (A : Option Addr) (c : Nat) (E : Own), m' = s.n - k ∧ k ≤ s.n ∧ (0 < k → S.down = false) ∧ OwnRow 5 1 A (64 * k) c ((areaB S (s.first + q) k).map bv) E ∧ Le M M1 ∧ D = [] ∧ L1 = E ++ dL d r S (sL p d s A0 l0 c0 :: R) ∧ F = [(0, .pointer (some ⟨p, 0, none⟩)), (1, .int .i64 (i : Int)), (5, .slice A (64 * k) c), (12, .int .i64 s.n), (13, .int .i64 k)]) (s.n) (F0 := [(0, _), (1, _), (5, _), (12, _), (13, _)]) ?_ (.cons rfl (.cons rfl (.cons rfl (.cons rfl (.cons rfl .nil))))) ?_  -- slots [0, 1, 5, 12, 13], written [5, 13]
  · exact ⟨0, none, 0, [], rfl, by omega, (fun h => by omega), .nil, Le.refl _, rfl, rfl, rfl⟩
  rintro m _ _ M1 L1 ⟨k, A, c, E, rfl, hk, hdn, hE, hM1, rfl, rfl, rfl⟩
  refine x_seq (x_region ?_)
  refine tl_y rfl (y_lss rfl rfl) ?_
  refine tl_nil (.then_normal ?_)
  refine x_seq ?_
  refine x_cond rfl (fun hc1 => ?_) (fun hc1 => ?_)
  ·
    refine x_skip (.then_normal ?_)
    refine x_seq ?_
    refine x_block ?_
    refine x_seq (x_region ?_)
    refine tl_y rfl (y_move (v := .int _ _) rfl) ?_
    refine tl_y rfl (y_assign (v := .int _ _) rfl) ?_
    refine tl_nil (.then_normal ?_)
    refine x_seq ?_
    refine x_draw 23 hmix rfl ?_
    refine to_p 0 rfl (by kernel_rfl) rfl (y_move (v := .pointer _) rfl) ?_
    refine to_p 1 rfl (by kernel_rfl) rfl (y_nilCheck rfl) ?_
    refine to_p 2 rfl (by kernel_rfl) rfl (y_fieldAddr rfl) ?_
    refine to_y 3 rfl (by kernel_rfl) rfl (y_load rfl rfl (.own inferInstance inferInstance)) ?_
    refine to_p 4 rfl (by kernel_rfl) rfl (y_move (v := .pointer _) rfl) ?_
    refine to_p 5 rfl (by kernel_rfl) rfl (y_nilCheck rfl) ?_
    refine to_p 6 rfl (by kernel_rfl) rfl (y_fieldAddr rfl) ?_
    refine to_y 7 rfl (by kernel_rfl) rfl (y_load rfl rfl (.own inferInstance inferInstance)) ?_
    refine to_p 8 rfl (by kernel_rfl) rfl (y_move (v := .int _ _) rfl) ?_
    refine to_p 9 rfl (by kernel_rfl) rfl (y_move (v := .pointer _) rfl) ?_
    refine to_p 10 rfl (by kernel_rfl) rfl (y_nilCheck rfl) ?_
    refine to_p 11 rfl (by kernel_rfl) rfl (y_fieldAddr rfl) ?_
    refine to_y 12 rfl (by kernel_rfl) rfl (y_load rfl rfl (.own inferInstance inferInstance)) ?_
    refine to_p 13 rfl (by kernel_rfl) rfl (y_mulI rfl rfl (by rw [hmul]; omega)) ?_
    rw [hmul]
    refine to_p 14 rfl (by kernel_rfl) rfl (y_addI rfl rfl (by omega)) ?_
    refine to_p 15 rfl (by kernel_rfl) rfl (y_move (v := .int _ _) rfl) ?_
    refine to_p 16 rfl (by kernel_rfl) rfl (y_addI rfl rfl (by omega)) ?_
    rw [show ((s.first : Int) + (q : Int)) + (k : Int) = ((s.first + q + k : Nat) : Int) by omega]
    refine to_e 17 rfl (by kernel_rfl) rfl (e_call' rfl (Con.to (dL d r S (E ++ sL p d s A0 l0 c0 :: R)) inferInstance (Read_spec (h.mono hM1) _)) ?_)
    rintro _ M2 _ hM2 ⟨rfl, A2, n2, c2, rfl, hA2⟩
    refine ⟨⟨hM2, Keeps.mem⟩, ?_⟩
    refine to_p 18 rfl (by kernel_rfl) rfl (y_move (v := .tuple _) rfl) ?_
    refine to_p 19 rfl (by kernel_rfl) rfl (y_extract rfl) ?_
    refine to_p 20 rfl (by kernel_rfl) rfl (y_extract rfl) ?_
    refine to_p 21 rfl (by kernel_rfl) rfl (y_assign (v := .slice _ _ _) rfl) ?_
    refine to_p 22 rfl (by kernel_rfl) rfl (y_assign (v := .int _ _) rfl) ?_
    refine to_nil (by kernel_rfl) (.then_normal ?_)
    refine .sub (F' := [(0, _), (1, _), (5, _), (7, _), (8, _), (12, _), (13, _)]) (.cons rfl (.cons rfl (.cons rfl (.cons rfl (.cons rfl (.cons rfl (.cons rfl .nil))))))) ?_
    refine x_seq (x_region ?_)
    refine tl_y rfl (y_move (v := .int _ _) rfl) ?_
    refine tl_e rfl (e_call rfl (well_spec _) (by
  rintro _ _ _ _ ⟨rfl, rfl, rfl, hne⟩
  refine .dropTo (dL d r S (sL p d s A0 l0 c0 :: R)) inferInstance (.retA rfl (hM1.trans hM2) ?_)
  cases hd : S.down with
  | false => exact absurd (readRes_len hd h.sl h.pl (by omega)).1 hne
  | true => exact ⟨rfl, rfl, by rw [show readRes S ((s.first + q + k : Nat) : Int) = ([], 6) by simp [readRes, hd]]⟩) ?_)
    rintro _ _ _ _ ⟨rfl, rfl, hz⟩
    have hd : S.down = false := by
      cases hd : S.down with
      | false => rfl
      | true => rw [show readRes S ((s.first + q + k : Nat) : Int) = ([], 6) by simp [readRes, hd]] at hz; simp at hz
    have hrl := readRes_len hd h.sl h.pl (i := s.first + q + k) (by omega)
    obtain rfl : n2 = 64 := by have := hA2.size; omega
    refine tl_nil (.then_normal ?_)
    refine x_region ?_
    refine tl_y rfl (y_move (v := .slice _ _ _) rfl) ?_
    refine tl_y rfl (y_move (v := .slice _ _ _) rfl) ?_
    refine .bringE E inferInstance ?_
    refine tl_e rfl (e_append (E := E) (by decide) rfl rfl hE (.row hA2) (all_one_bv _) (by omega) (by omega) (fun A3 cap3 E3 hE3 => ?_))
    rw [← List.map_append] at hE3
    refine tl_y rfl (y_assign (v := .slice _ _ _) rfl) ?_
    refine tl_nil (.block_normal (.then_normal ?_))
    refine .sub (F' := [(0, _), (1, _), (5, _), (12, _), (13, _)]) (.cons rfl (.cons rfl (.cons rfl (.cons rfl (.cons rfl .nil))))) ?_
    refine x_region ?_
    refine tl_y rfl (y_addI rfl rfl (by omega)) ?_
    refine tl_y rfl (y_move (v := .int _ _) rfl) ?_
    refine .dropTo (E3 ++ dL d r S (sL p d s A0 l0 c0 :: R)) inferInstance ?_
    refine tl_nil (.loop_next (m' := s.n - (k + 1)) (by omega) (F' := [(0, _), (1, _), (5, _), (12, _), (13, _)]) (.cons rfl (.cons rfl (.cons rfl (.cons rfl (.cons rfl .nil))))) ?_)
    exact ⟨k + 1, A3, cap3, E3, rfl, by omega, (fun _ => hd), hE3, hM1.trans hM2, rfl, rfl, rfl⟩
  ·
    refine x_exit (.then_exit (.loop_exit (.block_exit (.then_normal ?_))))
    refine .sub (F' := [(5, _)]) (.cons rfl .nil) ?_
    refine x_seq (x_region ?_)
    refine tl_y rfl (y_move (v := .slice _ _ _) rfl) ?_
    refine tl_y rfl (y_assign (v := .slice _ _ _) rfl) ?_
    refine tl_nil (.then_normal ?_)
    obtain rfl : k = s.n := by omega
    refine x_ret (.pubRow hE fun M' hle hr => ret1 rfl rfl (hM1.trans hle) ⟨hdn (by omega), rfl, _, _, rfl, hr⟩)
theorem read_spec (hg : ShaG M) {p d : Nat} {s : SS} {A0 : Option Addr} {l0 c0 : Nat} (hn : 1 ≤ s.n ∧ s.n ≤ 8) {A : Option Addr} {n c : Nat} {a : List UInt8} (h : Bytes M A n c a) (hl : n = 64 * s.n) :
    Con Tryd.prog 117 #[.pointer (some ⟨p, 0, none⟩), .slice A n c] G M (sL p d s A0 l0 c0 :: R) (fun v M' L' => L' = sL p d s A0 l0 c0 :: R ∧ ∃ A' n' c', v = .agg #[.int .u64 ((readRec s.n a).1.toNat : Int), .slice A' n' c'] ∧ Bytes M' A' n' c' (readRec s.n a).2) noPanic := by
  have hs := h.size
  have hc := h.le
  have hroom : (if (s.n : Int) < 1 ∨ 8 < (s.n : Int) then 0 else 64 * (s.n : Int) - 28) = 64 * (s.n : Int) - 28 := by rw [if_neg (by omega)]
  refine enter (args := [_, _]) (fn := Tryd.f117) ⟨Tryd.func117, rfl, by kernel_rfl, by kernel_rfl⟩ 51 rfl ?_
  refine x_seq (x_region ?_)
  refine tl_e rfl (e_alloc (fun b1 => ?_))
  refine tl_nil (.then_normal ?_)
  refine x_seq (x_region ?_)
  refine tl_y rfl (y_move (v := .slice _ _ _) rfl) ?_
  refine tl_y rfl (y_sliceH rfl rfl (by omega) (by omega)) ?_
  refine tl_e rfl (e_call' rfl (Get8_spec (n := 8) (bs := a.take 8) (Bytes.take h 8 (by omega)) (by omega)) ?_)
  rintro _ _ _ _ ⟨rfl, rfl, x, hx, rfl⟩
  refine tl_y rfl (y_move (v := .tuple _) rfl) ?_
  refine tl_y rfl (y_extract rfl) ?_
  refine tl_y rfl (y_extract rfl) ?_
  refine tl_y rfl (y_assign (v := .int _ _) rfl) ?_
  refine tl_y rfl (y_assign (v := .bool _) rfl) ?_
  refine tl_nil (.then_normal ?_)
  refine .sub (F' := [(0, _), (1, _), (4, _), (5, _)]) (.cons rfl (.cons rfl (.cons rfl (.cons rfl .nil)))) ?_
  refine x_seq (x_region ?_)
  refine tl_y rfl (y_move (v := .slice _ _ _) rfl) ?_
  refine tl_y rfl (y_sliceLH rfl rfl rfl (by omega) (by omega)) ?_
  refine tl_e rfl (e_call' rfl (Get8_spec (n := 4) (bs := (a.drop 8).take 4) (Bytes.sub h 8 12 (by omega) (by omega)) (by omega)) ?_)
  rintro _ _ _ _ ⟨rfl, rfl, y, hy, rfl⟩
  have hxn : numOf a = x.toNat := hx.symm
  have hyn : cntOf a = y.toNat := hy.symm
  have hofx : UInt64.ofNat (numOf a) = x := by rw [hxn]; simp
  refine tl_y rfl (y_move (v := .tuple _) rfl) ?_
  refine tl_y rfl (y_extract rfl) ?_
  refine tl_y rfl (y_extract rfl) ?_
  refine tl_y rfl (y_assign (v := .int _ _) rfl) ?_
  refine tl_y rfl (y_assign (v := .bool _) rfl) ?_
  refine tl_nil (.then_normal ?_)
  refine .sub (F' := [(0, _), (1, _), (4, _), (5, _), (7, _)]) (.cons rfl (.cons rfl (.cons rfl (.cons rfl (.cons rfl .nil))))) ?_
  refine x_seq (x_seq (x_region ?_))
  refine tl_y rfl (y_move (v := .int _ _) rfl) ?_
  refine tl_y rfl (y_eql rfl rfl) ?_
  refine tl_y rfl (y_move (v := .bool _) rfl) ?_
  refine tl_cases (s := 24) rfl (fun hk1 => ?_) (fun hk1 => ?_)
  ·
    refine tl_skip rfl ?_
    refine tl_skip rfl ?_
    refine tl_skip rfl ?_
    refine tl_skip rfl ?_
    refine tl_skip rfl ?_
    refine tl_skip rfl ?_
    refine tl_skip rfl ?_
    refine tl_skip rfl ?_
    refine tl_y rfl (y_pickT rfl rfl) ?_
    refine tl_nil (.then_normal ?_)
    refine .sub (F' := [(0, _), (1, _), (4, _), (5, _), (7, _), (33, _)]) (.cons rfl (.cons rfl (.cons rfl (.cons rfl (.cons rfl (.cons rfl .nil)))))) ?_
    refine x_true rfl rfl ?_
    refine x_seq (x_region ?_)
    refine tl_y rfl (y_build rfl) ?_
    refine tl_e rfl (e_store rfl rfl (by rfl) (by rfl) inferInstance inferInstance inferInstance ?_)
    refine tl_nil (.then_normal ?_)
    refine .sub (F' := [(4, _)]) (.cons rfl .nil) ?_
    refine x_ret (.then_ret (retRV (L' := sL p d s A0 l0 c0 :: R) (rv1 rfl (rc_cellAgg (by rfl) rfl (.own inferInstance inferInstance))) inferInstance (Le.refl _) (by
  rw [show readRec s.n a = (0, []) by rw [readRec, if_pos (.inl (by omega))]]
  exact ⟨rfl, _, _, _, rfl, Row.nil _ _⟩)))
  ·
    refine tl_y rfl (y_move (v := .int _ _) rfl) ?_
    refine tl_y rfl (y_move (v := .pointer _) rfl) ?_
    refine tl_y rfl (y_nilCheck rfl) ?_
    refine tl_y rfl (y_fieldAddr rfl) ?_
    refine tl_y rfl (y_load rfl rfl (.own inferInstance inferInstance)) ?_
    refine tl_e rfl (e_call' rfl (Room_spec (s.n : Int)) ?_)
    rintro _ _ _ _ ⟨rfl, rfl, rfl⟩
    rw [hroom]
    refine tl_y rfl (y_convN64 rfl (by omega)) ?_
    refine tl_y rfl (y_gtr rfl rfl) ?_
    refine tl_y rfl (y_pickF rfl rfl) ?_
    refine tl_nil (.then_normal ?_)
    refine .sub (F' := [(0, _), (1, _), (4, _), (5, _), (7, _), (33, _)]) (.cons rfl (.cons rfl (.cons rfl (.cons rfl (.cons rfl (.cons rfl .nil)))))) ?_
    refine x_cond rfl (fun hc1 => ?_) (fun hc1 => ?_)
    ·
      refine x_seq (x_region ?_)
      refine tl_y rfl (y_build rfl) ?_
      refine tl_e rfl (e_store rfl rfl (by rfl) (by rfl) inferInstance inferInstance inferInstance ?_)
      refine tl_nil (.then_normal ?_)
      refine .sub (F' := [(4, _)]) (.cons rfl .nil) ?_
      refine x_ret (.then_ret (retRV (L' := sL p d s A0 l0 c0 :: R) (rv1 rfl (rc_cellAgg (by rfl) rfl (.own inferInstance inferInstance))) inferInstance (Le.refl _) (by
  rw [show readRec s.n a = (0, []) by rw [readRec, if_pos (.inr (by omega))]]
  exact ⟨rfl, _, _, _, rfl, Row.nil _ _⟩)))
    ·
      refine x_skip (.then_normal ?_)
      refine x_seq (x_region ?_)
      refine tl_y rfl (y_move (v := .int _ _) rfl) ?_
      refine tl_y rfl (y_move (v := .slice _ _ _) rfl) ?_
      refine tl_y rfl (y_move (v := .int _ _) rfl) ?_
      refine tl_y rfl (y_convI rfl (by omega)) ?_
      refine tl_y rfl (y_addI rfl rfl (by omega)) ?_
      refine tl_y rfl (y_sliceLH rfl rfl rfl (by omega) (by omega)) ?_
      rw [show (12 + ((y.toNat : Nat) : Int)).toNat - Int.toNat 12 = cntOf a by omega]
      have hD : Bytes M (sl A (Int.toNat 12) c 1) (cntOf a) (c - Int.toNat 12) (datOf a) := by
        have h1 := Bytes.sub h 12 (12 + cntOf a) (by omega) (by omega)
        rw [Nat.add_sub_cancel_left] at h1
        exact h1
      refine tl_e rfl (e_call' rfl (bytesClone_spec hD (by omega)) ?_)
      rintro _ M1 _ hM1 ⟨rfl, A1, c1, rfl, hA1⟩
      have hdl := hA1.size
      refine tl_y rfl (y_build rfl) ?_
      refine tl_e rfl (e_alloc (fun b2 => ?_))
      refine tl_e rfl (e_store rfl rfl (by rfl) (by rfl) inferInstance inferInstance inferInstance ?_)
      refine tl_nil (.then_normal ?_)
      refine .sub (F' := [(0, _), (1, _), (4, _), (9, _)]) (.cons rfl (.cons rfl (.cons rfl (.cons rfl .nil)))) ?_
      refine x_seq (x_seq (x_region ?_))
      refine tl_y rfl (y_move (v := .pointer _) rfl) ?_
      refine tl_y rfl (y_loadAgg rfl rfl (.own inferInstance inferInstance)) ?_
      refine tl_e rfl (e_call' rfl (Con.to (sL p d s A0 l0 c0 :: (b2, .cells (List.toArray [.int .u64 (x.toNat : Int), .slice A1 (cntOf a) c1]) 136 (0, 0)) :: (b1, .cells (List.toArray [.int .u64 0, .slice none 0 0]) 136 (0, 0)) :: R) inferInstance (bytesOf_spec (hg.mono hM1) hn hA1 (by omega))) ?_)
      rintro _ M2 _ hM2 ⟨rfl, A2, c2, rfl, hA2⟩
      refine tl_y rfl (y_move (v := .slice _ _ _) rfl) ?_
      refine tl_e rfl (e_call' rfl (Same_spec hA2 (h.mono (hM1.trans hM2))) ?_)
      rintro _ _ _ _ ⟨rfl, rfl, rfl⟩
      refine tl_y rfl (y_notd rfl) ?_
      refine tl_nil (.then_normal ?_)
      refine .sub (F' := [(4, _), (9, _), (48, _)]) (.cons rfl (.cons rfl (.cons rfl .nil))) ?_
      refine x_cond rfl (fun hc2 => ?_) (fun hc2 => ?_)
      ·
        refine x_seq (x_region ?_)
        refine tl_y rfl (y_build rfl) ?_
        refine tl_e rfl (e_store rfl rfl (by rfl) (by rfl) inferInstance inferInstance inferInstance ?_)
        refine tl_nil (.then_normal ?_)
        refine x_ret (.then_ret (retRV (L' := sL p d s A0 l0 c0 :: R) (rv1 rfl (rc_cellAgg (by rfl) rfl (.own inferInstance inferInstance))) inferInstance (hM1.trans hM2) (by
  rw [show readRec s.n a = (0, []) by rw [readRec, if_neg (by omega), hofx, if_neg hc2]]
  exact ⟨rfl, _, _, _, rfl, Row.nil _ _⟩)))
      ·
        refine x_skip (.then_normal ?_)
        refine x_seq (x_region ?_)
        refine tl_y rfl (y_loadAgg rfl rfl (.own inferInstance inferInstance)) ?_
        refine tl_e rfl (e_store rfl rfl (by rfl) (by rfl) inferInstance inferInstance inferInstance ?_)
        refine tl_nil (.then_normal ?_)
        refine x_ret (retRV (L' := sL p d s A0 l0 c0 :: R) (rv1 rfl (rc_cellAgg (by rfl) rfl (.own inferInstance inferInstance))) inferInstance (hM1.trans hM2) (by
  rw [show readRec s.n a = (x, datOf a) by rw [readRec, if_neg (by omega), hofx, if_pos (Classical.not_not.1 hc2)]]
  exact ⟨rfl, _, _, _, rfl, hA1.mono hM2⟩))
end
end Go.Proofs.YtbgdjdhbejbhkaaDoor
set_option linter.unusedVariables false
set_option linter.unusedSimpArgs false
namespace Go.Proofs.YtbgdjdhbejbhkaaDoor
open Go Go.Eng
section
variable {G : World} {M : Mem} {L R : Own} {p d : Nat} {r : DRep} {S : DS} {s : SS} {A0 : Option Addr} {l0 c0 : Nat}
def SK (p d : Nat) (S : DS) (s : SS) (R : Own) (M' : Mem) (L' : Own) : Prop := ∃ r' A l c, IsDisk M' r' S ∧ Bytes M' A l c s.b ∧ L' = dL d r' S (sL p d s A l c :: R)
theorem areaLen (h : IsDisk M r S) (ok : OkS S s) (hd : S.down = false) (i : Nat) (hi : i ≤ 1) : (areaB S (s.first + i * s.n) s.n).length = 64 * s.n :=
  areaB_length hd h.sl h.pl s.n (by have := ok.in_; have := Nat.mul_le_mul_right s.n hi; omega)
theorem load_spec (hg : ShaG M) (h : IsDisk M r S) (ok : OkS S s) (hb : Bytes M A0 l0 c0 s.b) :
    Con Tryd.prog 79 #[.pointer (some ⟨p, 0, none⟩)] G M (dL d r S (sL p d s A0 l0 c0 :: R))
      (fun v M' L' => (loadRes S s).2 = 0 ∧ SK p d S (loadRes S s).1 R M' L') (fun ch M' L' => ch = wrongs (loadRes S s).2 ∧ SK p d S (loadRes S s).1 R M' L') := by
  have hn := ok.n
  refine enter (args := [_]) (fn := Tryd.f79) ⟨Tryd.func79, rfl, by kernel_rfl, by kernel_rfl⟩ 49 rfl ?_
  refine x_seq (x_region ?_)
  refine tl_y rfl (y_move (v := .pointer _) rfl) ?_
  refine tl_e rfl (e_call rfl (area_spec h ok 0 (by omega)) (by
  rintro _ M1 _ hM1 ⟨hd, rfl, rfl⟩
  refine .retA rfl hM1 ?_
  rw [show loadRes S s = (s, 6) by rw [loadRes, if_pos hd]]
  exact ⟨rfl, r, A0, l0, c0, h.mono hM1, hb.mono hM1, rfl⟩) ?_)
  rintro _ M1 _ hM1 ⟨hd, rfl, A1, c1, rfl, hA1⟩
  refine tl_y rfl (y_move (v := .pointer _) rfl) ?_
  refine tl_e rfl (e_call rfl (area_spec (h.mono hM1) ok 1 (by omega)) (by
  rintro _ M2 _ hM2 ⟨hd', rfl, rfl⟩
  rw [hd] at hd'; cases hd') ?_)
  rintro _ M2 _ hM2 ⟨_, rfl, A2, c2, rfl, hA2⟩
  replace hA1 := hA1.mono hM2
  have hl1 : (areaB S s.first s.n).length = 64 * s.n := by simpa using areaLen h ok hd 0 (by omega)
  have hl2 : (areaB S (s.first + s.n) s.n).length = 64 * s.n := by simpa using areaLen h ok hd 1 (by omega)
  rw [show s.first + 0 * s.n = s.first by omega] at hA1
  rw [show s.first + 1 * s.n = s.first + s.n by omega] at hA2
  have hres : loadRes S s = loaded s (areaB S s.first s.n) (areaB S (s.first + s.n) s.n) := by rw [loadRes, if_neg (by simp [hd])]
  generalize areaB S s.first s.n = one at *
  generalize areaB S (s.first + s.n) s.n = two at *
  have hm := hM1.trans hM2
  refine tl_y rfl (y_assign (v := .slice _ _ _) rfl) ?_
  refine tl_y rfl (y_assign (v := .slice _ _ _) rfl) ?_
  refine tl_nil (.then_normal ?_)
  refine .sub (F' := [(0, _), (2, _), (3, _)]) (.cons rfl (.cons rfl (.cons rfl .nil))) ?_
  refine x_seq (x_region ?_)
  refine tl_y rfl (y_move (v := .pointer _) rfl) ?_
  refine tl_y rfl (y_move (v := .slice _ _ _) rfl) ?_
  refine tl_e rfl (e_call' rfl (Con.to (sL p d s A0 l0 c0 :: (d, .cells (List.toArray (dcells r S)) 134 (0, 0)) :: (r.E1 ++ (r.E2 ++ R))) inferInstance (read_spec (hg.mono hm) hn hA1 rfl)) ?_)
  rintro _ M3 _ hM3 ⟨rfl, A3, n3, c3, rfl, hA3⟩
  refine tl_y rfl (y_move (v := .pointer _) rfl) ?_
  refine tl_y rfl (y_move (v := .slice _ _ _) rfl) ?_
  refine tl_e rfl (e_call' rfl (read_spec (hg.mono (hm.trans hM3)) hn (hA2.mono hM3) rfl) ?_)
  rintro _ M4 _ hM4 ⟨rfl, A4, n4, c4, rfl, hA4⟩
  replace hA3 := hA3.mono hM4
  replace hm := hm.trans (hM3.trans hM4)
  replace hA1 := hA1.mono (hM3.trans hM4)
  replace hA2 := hA2.mono (hM3.trans hM4)
  refine tl_e rfl (e_alloc (fun b1 => ?_))
  refine tl_e rfl (e_alloc (fun b2 => ?_))
  refine tl_e rfl (e_store rfl rfl (by rfl) (by rfl) inferInstance inferInstance inferInstance ?_)
  refine tl_e rfl (e_store rfl rfl (by rfl) (by rfl) inferInstance inferInstance inferInstance ?_)
  refine tl_nil (.then_normal ?_)
  refine .sub (F' := [(0, _), (2, _), (3, _), (4, _), (5, _)]) (.cons rfl (.cons rfl (.cons rfl (.cons rfl (.cons rfl .nil))))) ?_
  refine x_seq ?_
  refine x_draw0 9 ([(b1, .cells (List.toArray [.int .u64 ((readRec s.n one).1.toNat : Int), .slice A3 n3 c3]) 136 (0, 0))]) Keeps.mem hmix rfl ?_
  refine to_p 0 rfl (by kernel_rfl) rfl (y_move (v := .pointer _) rfl) ?_
  refine to_p 1 rfl (by kernel_rfl) rfl (y_move (v := .pointer _) rfl) ?_
  refine to_y 2 rfl (by kernel_rfl) rfl (y_loadAgg rfl rfl (.own inferInstance inferInstance)) ?_
  refine to_p 3 rfl (by kernel_rfl) rfl (y_nilCheck rfl) ?_
  refine to_p 4 rfl (by kernel_rfl) rfl (y_fieldAddr rfl) ?_
  refine to_e 5 rfl (by kernel_rfl) rfl (e_store rfl rfl (by rfl) (by rfl) inferInstance inferInstance inferInstance ?_)
  refine ⟨⟨(by first | exact Le.refl _ | assumption), Keeps.mem⟩, ?_⟩
  refine to_p 6 rfl (by kernel_rfl) rfl (y_nilCheck rfl) ?_
  refine to_p 7 rfl (by kernel_rfl) rfl (y_fieldAddr rfl) ?_
  refine to_e 8 rfl (by kernel_rfl) rfl (e_store rfl rfl (by rfl) (by rfl) inferInstance inferInstance inferInstance ?_)
  refine ⟨⟨(by first | exact Le.refl _ | assumption), Keeps.mem⟩, ?_⟩
  refine to_nil (by kernel_rfl) (.then_normal ?_)
  refine .sub (F' := [(0, _), (2, _), (3, _), (4, _), (5, _)]) (.cons rfl (.cons rfl (.cons rfl (.cons rfl (.cons rfl .nil))))) ?_
  refine x_block ?_
  refine x_seq (x_region ?_)
  refine tl_y rfl (y_fieldAddr rfl) ?_
  refine tl_y rfl (y_load rfl rfl (.own inferInstance inferInstance)) ?_
  refine tl_y rfl (y_fieldAddr rfl) ?_
  refine tl_y rfl (y_load rfl rfl (.own inferInstance inferInstance)) ?_
  refine tl_y rfl (y_gtr rfl rfl) ?_
  refine tl_y rfl (y_assign (v := .bool _) rfl) ?_
  refine tl_nil (.then_normal ?_)
  refine .sub (F' := [(0, _), (2, _), (3, _), (4, _), (5, _), (24, _)]) (.cons rfl (.cons rfl (.cons rfl (.cons rfl (.cons rfl (.cons rfl .nil)))))) ?_
  refine x_cond rfl (fun hc1 => ?_) (fun hc1 => ?_)
  ·
    refine x_draw0 9 ([(b2, .cells (List.toArray [.int .u64 ((readRec s.n two).1.toNat : Int), .slice A4 n4 c4]) 136 (0, 0))]) Keeps.mem hmix rfl ?_
    refine to_p 0 rfl (by kernel_rfl) rfl (y_move (v := .pointer _) rfl) ?_
    refine to_p 1 rfl (by kernel_rfl) rfl (y_move (v := .pointer _) rfl) ?_
    refine to_y 2 rfl (by kernel_rfl) rfl (y_loadAgg rfl rfl (.own inferInstance inferInstance)) ?_
    refine to_p 3 rfl (by kernel_rfl) rfl (y_nilCheck rfl) ?_
    refine to_p 4 rfl (by kernel_rfl) rfl (y_fieldAddr rfl) ?_
    refine to_e 5 rfl (by kernel_rfl) rfl (e_store rfl rfl (by rfl) (by rfl) inferInstance inferInstance inferInstance ?_)
    refine ⟨⟨(by first | exact Le.refl _ | assumption), Keeps.mem⟩, ?_⟩
    refine to_p 6 rfl (by kernel_rfl) rfl (y_nilCheck rfl) ?_
    refine to_p 7 rfl (by kernel_rfl) rfl (y_fieldAddr rfl) ?_
    refine to_e 8 rfl (by kernel_rfl) rfl (e_store rfl rfl (by rfl) (by rfl) inferInstance inferInstance inferInstance ?_)
    refine ⟨⟨(by first | exact Le.refl _ | assumption), Keeps.mem⟩, ?_⟩
    refine to_nil (by kernel_rfl) (.block_normal (.dropTo (dL d r S (sL p d { s with at_ := 1, num := (readRec s.n two).1, b := (readRec s.n two).2 } A4 n4 c4 :: R)) inferInstance (end0 rfl hm (by
  rw [hres, loaded, if_pos (by omega)]
  exact ⟨rfl, r, _, _, _, h.mono hm, hA4, rfl⟩))))
  ·
    refine x_seq (x_region ?_)
    refine tl_y rfl (y_fieldAddr rfl) ?_
    refine tl_y rfl (y_load rfl rfl (.own inferInstance inferInstance)) ?_
    refine tl_y rfl (y_gtr rfl rfl) ?_
    refine tl_y rfl (y_assign (v := .bool _) rfl) ?_
    refine tl_nil (.then_normal ?_)
    refine .sub (F' := [(2, _), (3, _), (37, _)]) (.cons rfl (.cons rfl (.cons rfl .nil))) ?_
    refine x_cond rfl (fun hc2 => ?_) (fun hc2 => ?_)
    ·
      refine x_skip (.block_normal (.dropTo (dL d r S (sL p d { s with at_ := 0, num := (readRec s.n one).1, b := (readRec s.n one).2 } A3 n3 c3 :: R)) inferInstance (end0 rfl hm (by
  rw [hres, loaded, if_neg (by omega), if_pos (by omega)]
  exact ⟨rfl, r, _, _, _, h.mono hm, hA3, rfl⟩))))
    ·
      refine x_seq (x_region ?_)
      refine tl_y rfl (y_move (v := .slice _ _ _) rfl) ?_
      refine tl_e rfl (e_call' rfl (blank_spec hA1) ?_)
      rintro _ _ _ _ ⟨rfl, rfl, rfl⟩
      refine tl_y rfl (y_move (v := .bool _) rfl) ?_
      refine tl_casesb (s := 44) rfl (fun hk1 => ?_) (fun hk1 => ?_)
      ·
        refine tl_skip rfl ?_
        refine tl_skip rfl ?_
        refine tl_y rfl (y_pickT rfl rfl) ?_
        refine tl_y rfl (y_assign (v := .bool _) rfl) ?_
        refine tl_nil (.then_normal ?_)
        refine .sub (F' := [(41, _)]) (.cons rfl .nil) ?_
        refine x_true rfl rfl ?_
        refine x_region ?_
        refine tl_e rfl (e_call rfl (well_spec 11) (by
  rintro _ _ _ _ ⟨rfl, rfl, rfl, _⟩
  refine .dropTo (dL d r S (sL p d { s with at_ := 0, num := (readRec s.n one).1, b := (readRec s.n one).2 } A3 n3 c3 :: R)) inferInstance (.retA rfl hm ?_)
  rw [hres, loaded, if_neg (by omega), if_neg (by omega), if_pos (.inl hk1)]
  exact ⟨rfl, r, _, _, _, h.mono hm, hA3, rfl⟩) ?_)
        rintro _ _ _ _ ⟨rfl, rfl, hz⟩
        refine tl_nil (.block_normal (end0 rfl hm (absurd hz (by decide))))
      ·
        refine tl_y rfl (y_move (v := .slice _ _ _) rfl) ?_
        refine tl_e rfl (e_call' rfl (blank_spec hA2) ?_)
        rintro _ _ _ _ ⟨rfl, rfl, rfl⟩
        refine tl_y rfl (y_pickF rfl rfl) ?_
        refine tl_y rfl (y_assign (v := .bool _) rfl) ?_
        refine tl_nil (.then_normal ?_)
        refine .sub (F' := [(41, _)]) (.cons rfl .nil) ?_
        refine x_condb rfl (fun hc3 => ?_) (fun hc3 => ?_)
        ·
          refine x_region ?_
          refine tl_e rfl (e_call rfl (well_spec 11) (by
  rintro _ _ _ _ ⟨rfl, rfl, rfl, _⟩
  refine .dropTo (dL d r S (sL p d { s with at_ := 0, num := (readRec s.n one).1, b := (readRec s.n one).2 } A3 n3 c3 :: R)) inferInstance (.retA rfl hm ?_)
  rw [hres, loaded, if_neg (by omega), if_neg (by omega), if_pos (.inr hc3)]
  exact ⟨rfl, r, _, _, _, h.mono hm, hA3, rfl⟩) ?_)
          rintro _ _ _ _ ⟨rfl, rfl, hz⟩
          refine tl_nil (.block_normal (end0 rfl hm (absurd hz (by decide))))
        ·
          refine x_region ?_
          refine tl_e rfl (e_call rfl (well_spec 8) (by
  rintro _ _ _ _ ⟨rfl, rfl, rfl, _⟩
  refine .dropTo (dL d r S (sL p d { s with at_ := 0, num := (readRec s.n one).1, b := (readRec s.n one).2 } A3 n3 c3 :: R)) inferInstance (.retA rfl hm ?_)
  rw [hres, loaded, if_neg (by omega), if_neg (by omega), if_neg (by rw [hk1, hc3]; simp)]
  exact ⟨rfl, r, _, _, _, h.mono hm, hA3, rfl⟩) ?_)
          rintro _ _ _ _ ⟨rfl, rfl, hz⟩
          refine tl_nil (.block_normal (end0 rfl hm (absurd hz (by decide))))
theorem Now_spec (hb : Bytes M A0 l0 c0 s.b) (hbl : s.b.length ≤ 140737488355328) :
    Con Tryd.prog 32 #[.pointer (some ⟨p, 0, none⟩)] G M (sL p d s A0 l0 c0 :: R) (fun v M' L' => L' = sL p d s A0 l0 c0 :: R ∧ ∃ A c, v = .tuple #[.slice A l0 c, .int .u64 (s.num.toNat : Int)] ∧ Bytes M' A l0 c s.b) noPanic := by
  have hl := hb.size
  refine enter (args := [_]) (fn := Tryd.f32) ⟨Tryd.func32, rfl, by kernel_rfl, by kernel_rfl⟩ 15 rfl ?_
  refine x_seq (x_region ?_)
  refine tl_y rfl (y_assign rfl) ?_
  refine tl_y rfl (y_assign rfl) ?_
  refine tl_nil (.then_normal ?_)
  refine x_seq ?_
  refine x_draw 13 hmix rfl ?_
  refine to_p 0 rfl (by kernel_rfl) rfl (y_move (v := .pointer _) rfl) ?_
  refine to_p 1 rfl (by kernel_rfl) rfl (y_nilCheck rfl) ?_
  refine to_p 2 rfl (by kernel_rfl) rfl (y_fieldAddr rfl) ?_
  refine to_p 3 rfl (by kernel_rfl) rfl (y_fieldAddr rfl) ?_
  refine to_y 4 rfl (by kernel_rfl) rfl (y_load rfl rfl (.own inferInstance inferInstance)) ?_
  refine to_p 6 rfl (by kernel_rfl) rfl (y_move (v := .pointer _) rfl) ?_
  refine to_p 7 rfl (by kernel_rfl) rfl (y_nilCheck rfl) ?_
  refine to_p 8 rfl (by kernel_rfl) rfl (y_fieldAddr rfl) ?_
  refine to_p 9 rfl (by kernel_rfl) rfl (y_fieldAddr rfl) ?_
  refine to_y 10 rfl (by kernel_rfl) rfl (y_load rfl rfl (.own inferInstance inferInstance)) ?_
  refine to_e 5 rfl (by kernel_rfl) rfl (e_call' rfl (bytesClone_spec hb (by omega)) ?_)
  rintro _ M1 _ hM1 ⟨rfl, A1, c1, rfl, hA1⟩
  refine ⟨⟨(by first | exact Le.refl _ | assumption), Keeps.mem⟩, ?_⟩
  refine to_p 11 rfl (by kernel_rfl) rfl (y_assign (v := .slice _ _ _) rfl) ?_
  refine to_p 12 rfl (by kernel_rfl) rfl (y_assign (v := .int _ _) rfl) ?_
  refine to_nil (by kernel_rfl) (.then_normal ?_)
  refine .sub (F' := [(2, _), (3, _)]) (.cons rfl (.cons rfl .nil)) ?_
  refine x_ret (ret2 rfl rfl rfl hM1 ⟨rfl, A1, c1, rfl, hA1⟩)
/-- What 'Load' tells. -/
def loadTold (S : DS) (s : SS) : List UInt8 × UInt64 := if (loadRes S s).2 = 0 then ((loadRes S s).1.b, (loadRes S s).1.num) else ([], 0)
theorem Load_spec (hg : ShaG M) (h : IsDisk M r S) (ok : OkS S s) (hb : Bytes M A0 l0 c0 s.b) :
    Con Tryd.prog 29 #[.pointer (some ⟨p, 0, none⟩)] G M (dL d r S (sL p d s A0 l0 c0 :: R))
      (fun v M' L' => SK p d S (loadRes S s).1 R M' L' ∧ ∃ A n c, v = .tuple #[.slice A n c, .int .u64 ((loadTold S s).2.toNat : Int), .int .i64 (loadRes S s).2] ∧ Bytes M' A n c (loadTold S s).1) noPanic := by
  have hok := loadRes_ok ok
  refine enter (args := [_]) (fn := Tryd.f29) ⟨Tryd.func29, rfl, by kernel_rfl, by kernel_rfl⟩ 21 rfl ?_
  refine x_seq (x_region ?_)
  refine tl_y rfl (y_assign rfl) ?_
  refine tl_y rfl (y_assign rfl) ?_
  refine tl_y rfl (y_assign rfl) ?_
  refine tl_nil (.then_normal ?_)
  refine x_seq (x_seq (x_region ?_))
  refine tl_y rfl (y_move (v := .pointer _) rfl) ?_
  refine tl_y rfl (y_makeFunc rfl rfl) ?_
  refine tl_e rfl (e_call' rfl (caught_spec (first := [.pointer (some ⟨p, 0, none⟩)]) (cap := []) (K := fun M' L' => (loadRes S s).2 = 0 ∧ SK p d S (loadRes S s).1 R M' L') (Kc := fun e M' L' => e = (loadRes S s).2 ∧ SK p d S (loadRes S s).1 R M' L') (fun b o => (Con.to (dL d r S (sL p d s A0 l0 c0 :: (b, o) :: R)) inferInstance (load_spec hg h ok hb)).postP
  (fun v M' L' _ ⟨h0, r', A', l', c', k1, k2, e⟩ => ⟨(b, o) :: dL d r' S (sL p d (loadRes S s).1 A' l' c' :: R), by rw [e]; infer_instance, _, rfl, h0, r', A', l', c', k1, k2, rfl⟩)
  (fun ch M' L' _ ⟨h0, r', A', l', c', k1, k2, e⟩ => ⟨(b, o) :: dL d r' S (sL p d (loadRes S s).1 A' l' c' :: R), by rw [e]; infer_instance, _, _, h0, rfl, rfl, r', A', l', c', k1, k2, rfl⟩))) ?_)
  rintro v1 M1 L1 hM1 hv
  obtain ⟨e, rfl, he, r1, A1, l1, c1, hd1, hb1, rfl⟩ : ∃ e, v1 = Value.int .i64 e ∧ e = (loadRes S s).2 ∧ SK p d S (loadRes S s).1 R M1 L1 := by
    rcases hv with ⟨rfl, h0, hk⟩ | ⟨e, rfl, h0, hk⟩
    · exact ⟨0, rfl, h0.symm, hk⟩
    · exact ⟨e, rfl, h0, hk⟩
  subst he
  have hl1 := hb1.size
  refine tl_y rfl (y_assign (v := .int _ _) rfl) ?_
  refine tl_nil (.then_normal ?_)
  refine .sub (F' := [(0, _), (5, _)]) (.cons rfl (.cons rfl .nil)) ?_
  refine x_seq (x_region ?_)
  refine tl_y rfl (y_move (v := .int _ _) rfl) ?_
  refine tl_y rfl (y_neq rfl rfl) ?_
  refine tl_nil (.then_normal ?_)
  refine x_cond rfl (fun hc1 => ?_) (fun hc1 => ?_)
  ·
    refine x_seq (x_region ?_)
    refine tl_y rfl (y_move (v := .int _ _) rfl) ?_
    refine tl_y rfl (y_assign rfl) ?_
    refine tl_y rfl (y_assign rfl) ?_
    refine tl_y rfl (y_assign (v := .int _ _) rfl) ?_
    refine tl_nil (.then_normal ?_)
    refine .sub (F' := [(2, _), (3, _), (4, _)]) (.cons rfl (.cons rfl (.cons rfl .nil))) ?_
    refine x_ret (.then_ret (ret3 rfl rfl rfl rfl hM1 ⟨⟨r1, A1, l1, c1, hd1, hb1, rfl⟩, none, 0, 0, by rw [show loadTold S s = ([], 0) by rw [loadTold, if_neg hc1]]; rfl, by rw [show loadTold S s = ([], 0) by rw [loadTold, if_neg hc1]]; exact Row.nil _ _⟩))
  ·
    refine x_skip (.then_normal ?_)
    refine x_seq (x_region ?_)
    refine tl_y rfl (y_move (v := .pointer _) rfl) ?_
    refine tl_e rfl (e_call' rfl (Con.to (sL p d (loadRes S s).1 A1 l1 c1 :: (d, .cells (List.toArray (dcells r1 S)) 134 (0, 0)) :: (r1.E1 ++ (r1.E2 ++ R))) inferInstance (Now_spec hb1 (by have := hok.b; have := hok.n; omega))) ?_)
    rintro _ M2 _ hM2 ⟨rfl, A2, c2, rfl, hA2⟩
    refine tl_y rfl (y_move (v := .tuple _) rfl) ?_
    refine tl_y rfl (y_extract rfl) ?_
    refine tl_y rfl (y_extract rfl) ?_
    refine tl_y rfl (y_assign (v := .slice _ _ _) rfl) ?_
    refine tl_y rfl (y_assign (v := .int _ _) rfl) ?_
    refine tl_nil (.then_normal ?_)
    refine .sub (F' := [(6, _), (7, _)]) (.cons rfl (.cons rfl .nil)) ?_
    refine x_seq (x_region ?_)
    refine tl_y rfl (y_move (v := .slice _ _ _) rfl) ?_
    refine tl_y rfl (y_move (v := .int _ _) rfl) ?_
    refine tl_y rfl (y_assign (v := .slice _ _ _) rfl) ?_
    refine tl_y rfl (y_assign (v := .int _ _) rfl) ?_
    refine tl_y rfl (y_assign rfl) ?_
    refine tl_nil (.then_normal ?_)
    refine .sub (F' := [(2, _), (3, _), (4, _)]) (.cons rfl (.cons rfl (.cons rfl .nil))) ?_
    refine x_ret (.dropTo (dL d r1 S (sL p d (loadRes S s).1 A1 l1 c1 :: R)) inferInstance (ret3 rfl rfl rfl rfl (hM1.trans hM2) (by
  have h0 : (loadRes S s).2 = 0 := by omega
  rw [show loadTold S s = ((loadRes S s).1.b, (loadRes S s).1.num) by rw [loadTold, if_pos h0], h0]
  exact ⟨⟨r1, A1, l1, c1, hd1.mono hM2, hb1.mono hM2, rfl⟩, A2, l1, c2, rfl, hA2⟩)))
end
end Go.Proofs.YtbgdjdhbejbhkaaDoor
set_option linter.unusedVariables false
set_option linter.unusedSimpArgs false
namespace Go.Proofs.YtbgdjdhbejbhkaaDoor
open Go Go.Eng
theorem saveGo_stuck {S : DS} {a : Nat} {all : List UInt8} {k : Nat} (h : (saveGo S a all k).2 ≠ 0) : ∀ j, saveGo S a all (k + j) = saveGo S a all k
  | 0 => rfl
  | j + 1 => by
    have ih := saveGo_stuck h j
    rw [show k + (j + 1) = (k + j) + 1 from rfl, saveGo, ih, if_pos h]
section
variable {G : World} {M : Mem} {L R : Own} {p d : Nat} {r : DRep} {S : DS} {s : SS} {A0 : Option Addr} {l0 c0 : Nat}
theorem sNew2_spec (h : IsDisk M r S) (first n : Int) :
    Con Tryd.prog 21 #[.pointer (some ⟨d, 0, none⟩), .int .i64 first, .int .i64 n] G M (dL d r S R)
      (fun v M' L' => if 1 ≤ n ∧ n ≤ 8 ∧ 0 ≤ first ∧ first + 2 * n ≤ S.sure.length then ∃ p, v = .tuple #[.pointer (some ⟨p, 0, none⟩), .int .i64 0] ∧ SK p d S ⟨first.toNat, n.toNat, 0, 0, []⟩ R M' L' else v = .tuple #[.pointer none, .int .i64 1] ∧ ∃ r', IsDisk M' r' S ∧ L' = dL d r' S R) noPanic := by
  have hsz := h.sz
  have hsn := h.sn
  refine enter (args := [_, _, _]) (fn := Tryd.f21) ⟨Tryd.func21, rfl, by kernel_rfl, by kernel_rfl⟩ 33 rfl ?_
  refine x_seq (x_region ?_)
  refine tl_y rfl (y_assign rfl) ?_
  refine tl_y rfl (y_assign rfl) ?_
  refine tl_nil (.then_normal ?_)
  refine x_seq (x_seq (x_region ?_))
  refine tl_y rfl (y_move (v := .int _ _) rfl) ?_
  refine tl_y rfl (y_lss rfl rfl) ?_
  refine tl_y rfl (y_move (v := .bool _) rfl) ?_
  refine tl_cases (s := 10) rfl (fun hk1 => ?_) (fun hk1 => ?_)
  ·
    refine tl_skip rfl ?_
    refine tl_skip rfl ?_
    refine tl_y rfl (y_pickT rfl rfl) ?_
    refine tl_y rfl (y_move (v := .bool _) rfl) ?_
    refine tl_skip rfl ?_
    refine tl_skip rfl ?_
    refine tl_y rfl (y_pickT rfl rfl) ?_
    refine tl_y rfl (y_move (v := .bool _) rfl) ?_
    refine tl_skip rfl ?_
    refine tl_skip rfl ?_
    refine tl_skip rfl ?_
    refine tl_skip rfl ?_
    refine tl_skip rfl ?_
    refine tl_skip rfl ?_
    refine tl_skip rfl ?_
    refine tl_skip rfl ?_
    refine tl_y rfl (y_pickT rfl rfl) ?_
    refine tl_nil (.then_normal ?_)
    refine .sub (F' := [(0, _), (1, _), (2, _), (27, _)]) (.cons rfl (.cons rfl (.cons rfl (.cons rfl .nil)))) ?_
    refine x_true rfl rfl ?_
    refine x_seq (x_region ?_)
    refine tl_y rfl (y_assign rfl) ?_
    refine tl_y rfl (y_assign rfl) ?_
    refine tl_nil (.then_normal ?_)
    refine .sub (F' := [(6, _), (7, _)]) (.cons rfl (.cons rfl .nil)) ?_
    refine x_ret (.then_ret (ret2 rfl rfl rfl (Le.refl _) (by rw [if_neg (by omega)]; exact ⟨rfl, r, h, rfl⟩)))
  ·
    refine tl_y rfl (y_move (v := .int _ _) rfl) ?_
    refine tl_y rfl (y_gtr rfl rfl) ?_
    refine tl_y rfl (y_pickF rfl rfl) ?_
    refine tl_y rfl (y_move (v := .bool _) rfl) ?_
    refine tl_cases (s := 14) rfl (fun hk2 => ?_) (fun hk2 => ?_)
    ·
      refine tl_skip rfl ?_
      refine tl_skip rfl ?_
      refine tl_y rfl (y_pickT rfl rfl) ?_
      refine tl_y rfl (y_move (v := .bool _) rfl) ?_
      refine tl_skip rfl ?_
      refine tl_skip rfl ?_
      refine tl_skip rfl ?_
      refine tl_skip rfl ?_
      refine tl_skip rfl ?_
      refine tl_skip rfl ?_
      refine tl_skip rfl ?_
      refine tl_skip rfl ?_
      refine tl_y rfl (y_pickT rfl rfl) ?_
      refine tl_nil (.then_normal ?_)
      refine .sub (F' := [(0, _), (1, _), (2, _), (27, _)]) (.cons rfl (.cons rfl (.cons rfl (.cons rfl .nil)))) ?_
      refine x_true rfl rfl ?_
      refine x_seq (x_region ?_)
      refine tl_y rfl (y_assign rfl) ?_
      refine tl_y rfl (y_assign rfl) ?_
      refine tl_nil (.then_normal ?_)
      refine .sub (F' := [(6, _), (7, _)]) (.cons rfl (.cons rfl .nil)) ?_
      refine x_ret (.then_ret (ret2 rfl rfl rfl (Le.refl _) (by rw [if_neg (by omega)]; exact ⟨rfl, r, h, rfl⟩)))
    ·
      refine tl_y rfl (y_move (v := .int _ _) rfl) ?_
      refine tl_y rfl (y_lss rfl rfl) ?_
      refine tl_y rfl (y_pickF rfl rfl) ?_
      refine tl_y rfl (y_move (v := .bool _) rfl) ?_
      refine tl_cases (s := 18) rfl (fun hk3 => ?_) (fun hk3 => ?_)
      ·
        refine tl_skip rfl ?_
        refine tl_skip rfl ?_
        refine tl_skip rfl ?_
        refine tl_skip rfl ?_
        refine tl_skip rfl ?_
        refine tl_skip rfl ?_
        refine tl_skip rfl ?_
        refine tl_skip rfl ?_
        refine tl_y rfl (y_pickT rfl rfl) ?_
        refine tl_nil (.then_normal ?_)
        refine .sub (F' := [(0, _), (1, _), (2, _), (27, _)]) (.cons rfl (.cons rfl (.cons rfl (.cons rfl .nil)))) ?_
        refine x_true rfl rfl ?_
        refine x_seq (x_region ?_)
        refine tl_y rfl (y_assign rfl) ?_
        refine tl_y rfl (y_assign rfl) ?_
        refine tl_nil (.then_normal ?_)
        refine .sub (F' := [(6, _), (7, _)]) (.cons rfl (.cons rfl .nil)) ?_
        refine x_ret (.then_ret (ret2 rfl rfl rfl (Le.refl _) (by rw [if_neg (by omega)]; exact ⟨rfl, r, h, rfl⟩)))
      ·
        refine tl_y rfl (y_move (v := .int _ _) rfl) ?_
        refine tl_y rfl (y_move (v := .pointer _) rfl) ?_
        refine tl_e rfl (e_call' rfl (Sure_spec h) ?_)
        rintro _ M1 _ hM1 ⟨rfl, A1, n1, c1, vs1, rfl, hA1, hb1⟩
        have hn1 := hA1.len
        have hn2 := hb1.len
        obtain rfl : n1 = S.sure.length := by omega
        refine tl_y rfl (y_len rfl) ?_
        refine tl_y rfl (y_move (v := .int _ _) rfl) ?_
        refine tl_y rfl (y_mulI rfl rfl (by omega)) ?_
        refine tl_y rfl (y_subI rfl rfl (by omega)) ?_
        refine tl_y rfl (y_gtr rfl rfl) ?_
        refine tl_y rfl (y_pickF rfl rfl) ?_
        refine tl_nil (.then_normal ?_)
        refine .sub (F' := [(0, _), (1, _), (2, _), (27, _)]) (.cons rfl (.cons rfl (.cons rfl (.cons rfl .nil)))) ?_
        refine x_cond rfl (fun hc1 => ?_) (fun hc1 => ?_)
        ·
          refine x_seq (x_region ?_)
          refine tl_y rfl (y_assign rfl) ?_
          refine tl_y rfl (y_assign rfl) ?_
          refine tl_nil (.then_normal ?_)
          refine .sub (F' := [(6, _), (7, _)]) (.cons rfl (.cons rfl .nil)) ?_
          refine x_ret (.then_ret (ret2 rfl rfl rfl hM1 (by rw [if_neg (by omega)]; exact ⟨rfl, r, h.mono hM1, rfl⟩)))
        ·
          obtain ⟨f, rfl⟩ : ∃ f : Nat, first = f := ⟨first.toNat, by omega⟩
          obtain ⟨n, rfl⟩ : ∃ k : Nat, n = k := ⟨n.toNat, by omega⟩
          refine x_skip (.then_normal ?_)
          refine x_seq (x_region ?_)
          refine tl_y rfl (y_move (v := .pointer _) rfl) ?_
          refine tl_y rfl (y_move (v := .int _ _) rfl) ?_
          refine tl_y rfl (y_move (v := .int _ _) rfl) ?_
          refine tl_y rfl (y_build rfl) ?_
          refine tl_e rfl (e_box rfl (fun b1 => ?_))
          refine tl_y rfl (y_assign (v := .pointer _) rfl) ?_
          refine tl_y rfl (y_assign rfl) ?_
          refine tl_nil (.then_normal ?_)
          refine .sub (F' := [(6, _), (7, _)]) (.cons rfl (.cons rfl .nil)) ?_
          refine x_ret (.eqL (L' := sL b1 d ⟨f, n, 0, 0, []⟩ none 0 0 :: dL d r S R) rfl (.to (dL d r S (sL b1 d ⟨f, n, 0, 0, []⟩ none 0 0 :: R)) inferInstance (ret2 rfl rfl rfl hM1 (by rw [if_pos (by omega)]; exact ⟨b1, rfl, r, none, 0, 0, h.mono hM1, Row.nil _ _, rfl⟩))))
abbrev sbox (x0 x1 x2 p : Nat) (num : UInt64) (to : Nat) (A : Option Addr) (l c : Nat) (R : Own) : Own :=
  (x2, .cells (List.toArray [.int .i64 to]) 3 (0, 0)) :: (x1, .cells (List.toArray [.int .u64 (num.toNat : Int), .slice A l c]) 136 (0, 0)) :: (x0, .cells (List.toArray [.pointer (some ⟨p, 0, none⟩)]) 36 (0, 0)) :: R
theorem Save1_spec (hg : ShaG M) (h : IsDisk M r S) (ok : OkS S s) {B : Nat} (hw : S.within B) (hB : B ≤ 1000000) (hb : Bytes M A0 l0 c0 s.b) {A : Option Addr} {l c : Nat} {b : List UInt8} (hr : Bytes M A l c b) (hbl : b.length + 28 ≤ 64 * s.n) {x0 x1 x2 be : Nat} {oe : Obj} :
    Con Tryd.prog 75 #[.pointer (some ⟨x0, 0, none⟩), .pointer (some ⟨x1, 0, none⟩), .pointer (some ⟨x2, 0, none⟩)] G M (dL d r S (sL p d s A0 l0 c0 :: (be, oe) :: sbox x0 x1 x2 p (s.num + 1) s.to A l c R))
      (fun v M' L' => (saveRes S s b).2 = 0 ∧ SK p d (saveRes S s b).1.1 (saveRes S s b).1.2 ((be, oe) :: sbox x0 x1 x2 p (s.num + 1) s.to A l c R) M' L')
      (fun ch M' L' => ch = wrongs (saveRes S s b).2 ∧ SK p d (saveRes S s b).1.1 (saveRes S s b).1.2 ((be, oe) :: sbox x0 x1 x2 p (s.num + 1) s.to A l c R) M' L') := by
  have hn := ok.n
  have hin := ok.in_
  have hsz := h.sz
  have hto : s.to ≤ 1 := by have := to_le s; have := ok.at_; omega
  have hmul : (s.to : Int) * (s.n : Int) = ((s.to * s.n : Nat) : Int) := by simp
  have hq := Nat.mul_le_mul_right s.n hto
  have hsv : saveRes S s b = if (laid S s b).2 ≠ 0 then (((laid S s b).1, s), (laid S s b).2) else if (flushRes (laid S s b).1).2 ≠ 0 then (((flushRes (laid S s b).1).1, s), (flushRes (laid S s b).1).2) else (((flushRes (laid S s b).1).1, s.saved b), 0) := by
    unfold saveRes; rw [if_neg (by omega)]
  have hla : laid S s b = saveGo S (s.first + s.to * s.n) (recB s.n (s.num + 1) b) s.n := rfl
  have hrl := recB_length (num := s.num + 1) hbl
  generalize hq' : s.to * s.n = q at hmul hq hla
  generalize hall : recB s.n (s.num + 1) b = all at hla hrl
  refine enter (args := [_, _, _]) (fn := Tryd.f75) ⟨Tryd.func75, rfl, by kernel_rfl, by kernel_rfl⟩ 56 rfl ?_
  refine x_seq (x_region ?_)
  refine tl_y rfl (y_load rfl rfl (.own inferInstance inferInstance)) ?_
  refine tl_y rfl (y_loadAgg rfl rfl (.own inferInstance inferInstance)) ?_
  refine tl_e rfl (e_call' rfl (Con.to (sL p d s A0 l0 c0 :: (d, .cells (List.toArray (dcells r S)) 134 (0, 0)) :: (r.E1 ++ (r.E2 ++ ((be, oe) :: sbox x0 x1 x2 p (s.num + 1) s.to A l c R)))) inferInstance (bytesOf_spec hg hn hr hbl)) ?_)
  rintro _ M1 _ hM1 ⟨rfl, A1, c1, rfl, hA1⟩
  rw [hall] at hA1
  have hc1le := hA1.le
  refine .to (dL d r S (sL p d s A0 l0 c0 :: (be, oe) :: sbox x0 x1 x2 p (s.num + 1) s.to A l c R)) inferInstance ?_
  refine tl_y rfl (y_assign (v := .slice _ _ _) rfl) ?_
  refine tl_nil (.then_normal ?_)
  refine x_seq (x_seq (x_region ?_))
  refine tl_y rfl (y_load rfl rfl (.own inferInstance inferInstance)) ?_
  refine tl_y rfl (y_nilCheck rfl) ?_
  refine tl_y rfl (y_fieldAddr rfl) ?_
  refine tl_y rfl (y_load rfl rfl (.own inferInstance inferInstance)) ?_
  refine tl_y rfl (y_move rfl) ?_
  refine tl_nil (.then_normal ?_)
  refine .sub (F' := [(0, _), (1, _), (2, _), (3, _), (11, _), (12, _)]) (.cons rfl (.cons rfl (.cons rfl (.cons rfl (.cons rfl (.cons rfl .nil)))))) ?_
  refine x_block ?_
  refine x_loop (I := fun m' F D M2 L2 => ∃ (k : Nat) (r2 : DRep), m' = s.n - k ∧ k ≤ s.n ∧ Le M1 M2 ∧ (saveGo S (s.first + q) all k).2 = 0 ∧ IsDisk M2 r2 (saveGo S (s.first + q) all k).1 ∧ D = [] ∧ L2 = dL d r2 (saveGo S (s.first + q) all k).1 (sL p d s A0 l0 c0 :: (be, oe) :: sbox x0 x1 x2 p (s.num + 1) s.to A l c R) ∧ F = [(0, .pointer (some ⟨x0, 0, none⟩)), (1, .pointer (some ⟨x1, 0, none⟩)), (2, .pointer (some ⟨x2, 0, none⟩)), (3, .slice A1 (64 * s.n) c1), (11, .int .i64 s.n), (12, .int .i64 k)]) (s.n) (F0 := [(0, _), (1, _), (2, _), (3, _), (11, _), (12, _)]) ?_ (.cons rfl (.cons rfl (.cons rfl (.cons rfl (.cons rfl (.cons rfl .nil)))))) ?_  -- slots [0, 1, 2, 3, 11, 12], written [12]
  · exact ⟨0, r, rfl, by omega, Le.refl _, rfl, h.mono hM1, rfl, rfl, rfl⟩
  rintro m _ _ M2 L2 ⟨k, r2, rfl, hk, hM2, h0, hd2, rfl, rfl, rfl⟩
  refine x_seq (x_region ?_)
  refine tl_y rfl (y_lss rfl rfl) ?_
  refine tl_nil (.then_normal ?_)
  refine x_seq ?_
  refine x_cond rfl (fun hc1 => ?_) (fun hc1 => ?_)
  ·
    have hkn : k < s.n := by omega
    have hw2 := saveGo_within hw (s.first + q) all k
    have hgo : saveGo S (s.first + q) all (k + 1) = writeRes (saveGo S (s.first + q) all k).1 ((s.first + q + k : Nat) : Int) ((all.drop (64 * k)).take 64) := by rw [saveGo, if_neg (by simp [h0])]
    have hrow : Bytes M2 (sl A1 ((k : Int) * 64).toNat c1 1) ((((k : Int) + 1) * 64).toNat - ((k : Int) * 64).toNat) (c1 - ((k : Int) * 64).toNat) ((all.drop (64 * k)).take 64) := by
      have h1 := Bytes.sub (hA1.mono hM2) (64 * k) (64 * (k + 1)) (by omega) (by omega)
      rw [show 64 * (k + 1) - 64 * k = 64 by omega] at h1
      rw [show ((k : Int) * 64).toNat = 64 * k by omega, show (((k : Int) + 1) * 64).toNat - 64 * k = 64 by omega]
      exact h1
    refine x_skip (.then_normal ?_)
    refine x_seq ?_
    refine x_block ?_
    refine x_seq (x_region ?_)
    refine tl_y rfl (y_move (v := .int _ _) rfl) ?_
    refine tl_y rfl (y_assign (v := .int _ _) rfl) ?_
    refine tl_nil (.then_normal ?_)
    refine x_draw0 26 ([(x2, .cells (List.toArray [.int .i64 s.to]) 3 (0, 0)), (x0, .cells (List.toArray [.pointer (some ⟨p, 0, none⟩)]) 36 (0, 0)), sL p d s A0 l0 c0]) Keeps.mem hmix rfl ?_
    refine to_y 0 rfl (by kernel_rfl) rfl (y_load rfl rfl (.own inferInstance inferInstance)) ?_
    refine to_p 1 rfl (by kernel_rfl) rfl (y_nilCheck rfl) ?_
    refine to_p 2 rfl (by kernel_rfl) rfl (y_fieldAddr rfl) ?_
    refine to_y 3 rfl (by kernel_rfl) rfl (y_load rfl rfl (.own inferInstance inferInstance)) ?_
    refine to_y 4 rfl (by kernel_rfl) rfl (y_load rfl rfl (.own inferInstance inferInstance)) ?_
    refine to_p 5 rfl (by kernel_rfl) rfl (y_nilCheck rfl) ?_
    refine to_p 6 rfl (by kernel_rfl) rfl (y_fieldAddr rfl) ?_
    refine to_y 7 rfl (by kernel_rfl) rfl (y_load rfl rfl (.own inferInstance inferInstance)) ?_
    refine to_y 8 rfl (by kernel_rfl) rfl (y_load rfl rfl (.own inferInstance inferInstance)) ?_
    refine to_y 9 rfl (by kernel_rfl) rfl (y_load rfl rfl (.own inferInstance inferInstance)) ?_
    refine to_p 10 rfl (by kernel_rfl) rfl (y_nilCheck rfl) ?_
    refine to_p 11 rfl (by kernel_rfl) rfl (y_fieldAddr rfl) ?_
    refine to_y 12 rfl (by kernel_rfl) rfl (y_load rfl rfl (.own inferInstance inferInstance)) ?_
    refine to_p 13 rfl (by kernel_rfl) rfl (y_mulI rfl rfl (by rw [hmul]; omega)) ?_
    rw [hmul]
    refine to_p 14 rfl (by kernel_rfl) rfl (y_addI rfl rfl (by omega)) ?_
    refine to_p 15 rfl (by kernel_rfl) rfl (y_move (v := .int _ _) rfl) ?_
    refine to_p 16 rfl (by kernel_rfl) rfl (y_addI rfl rfl (by omega)) ?_
    rw [show ((s.first : Int) + (q : Int)) + (k : Int) = ((s.first + q + k : Nat) : Int) by omega]
    refine to_p 17 rfl (by kernel_rfl) rfl (y_move (v := .slice _ _ _) rfl) ?_
    refine to_p 18 rfl (by kernel_rfl) rfl (y_move (v := .int _ _) rfl) ?_
    refine to_p 19 rfl (by kernel_rfl) rfl (y_mulI rfl rfl (by omega)) ?_
    refine to_p 20 rfl (by kernel_rfl) rfl (y_move (v := .int _ _) rfl) ?_
    refine to_p 21 rfl (by kernel_rfl) rfl (y_addI rfl rfl (by omega)) ?_
    refine to_p 22 rfl (by kernel_rfl) rfl (y_mulI rfl rfl (by omega)) ?_
    refine to_p 23 rfl (by kernel_rfl) rfl (y_sliceLH rfl rfl rfl (by omega) (by omega)) ?_
    refine to_e 24 rfl (by kernel_rfl) rfl (e_call' rfl (Write_spec hd2 (by have := hw2.1; have := hw2.2.1; omega) (by have := hw2.2.2; omega) hrow) ?_)
    rintro _ M3 _ hM3 ⟨⟨r3, hd3, rfl⟩, rfl⟩
    rw [← hgo] at hd3 ⊢
    refine ⟨⟨hM3, Keeps.mem⟩, ?_⟩
    refine to_e 25 rfl (by kernel_rfl) rfl (e_call rfl (well_spec _) (by
  rintro _ _ _ _ ⟨rfl, rfl, rfl, hne⟩
  refine .retA rfl (hM1.trans (hM2.trans hM3)) ?_
  have hst := saveGo_stuck hne (s.n - (k + 1))
  rw [show k + 1 + (s.n - (k + 1)) = s.n by omega, ← hla] at hst
  rw [← hst] at hd3 hne ⊢
  rw [hsv, if_pos hne]
  exact ⟨rfl, r3, A0, l0, c0, hd3, hb.mono (hM1.trans (hM2.trans hM3)), rfl⟩) ?_)
    rintro _ _ _ _ ⟨rfl, rfl, h1⟩
    refine ⟨⟨hM3, Keeps.mem⟩, ?_⟩
    refine to_nil (by kernel_rfl) (.block_normal (.then_normal ?_))
    refine .sub (F' := [(0, _), (1, _), (2, _), (3, _), (11, _), (12, _)]) (.cons rfl (.cons rfl (.cons rfl (.cons rfl (.cons rfl (.cons rfl .nil)))))) ?_
    refine x_region ?_
    refine tl_y rfl (y_addI rfl rfl (by omega)) ?_
    refine tl_y rfl (y_move (v := .int _ _) rfl) ?_
    refine tl_nil (.loop_next (m' := s.n - (k + 1)) (by omega) (F' := [(0, _), (1, _), (2, _), (3, _), (11, _), (12, _)]) (.cons rfl (.cons rfl (.cons rfl (.cons rfl (.cons rfl (.cons rfl .nil)))))) ?_)
    exact ⟨k + 1, r3, rfl, by omega, hM2.trans hM3, h1, hd3, rfl, rfl, rfl⟩
  ·
    obtain rfl : k = s.n := by omega
    rw [← hla] at h0 hd2 ⊢
    have hw2 : (laid S s b).1.within (B + s.n) := by rw [hla]; exact saveGo_within hw _ _ _
    have hm := hM1.trans hM2
    refine x_exit (.then_exit (.loop_exit (.block_exit (.then_normal ?_))))
    refine .sub (F' := [(0, _), (1, _), (2, _)]) (.cons rfl (.cons rfl (.cons rfl .nil))) ?_
    refine x_seq (x_region ?_)
    refine tl_y rfl (y_load rfl rfl (.own inferInstance inferInstance)) ?_
    refine tl_y rfl (y_nilCheck rfl) ?_
    refine tl_y rfl (y_fieldAddr rfl) ?_
    refine tl_y rfl (y_load rfl rfl (.own inferInstance inferInstance)) ?_
    refine tl_e rfl (e_call' rfl (Flush_spec hd2 (by have := hw2.1; have := hw2.2.1; omega) (by have := hw2.2.2; omega)) ?_)
    rintro _ M3 _ hM3 ⟨⟨r3, hd3, rfl⟩, rfl⟩
    replace hm := hm.trans hM3
    refine tl_e rfl (e_call rfl (well_spec _) (by
  rintro _ _ _ _ ⟨rfl, rfl, rfl, hne⟩
  refine .retA rfl hm ?_
  rw [hsv, if_neg (by simp [h0]), if_pos hne]
  exact ⟨rfl, r3, A0, l0, c0, hd3, hb.mono hm, rfl⟩) ?_)
    rintro _ _ _ _ ⟨rfl, rfl, h1⟩
    refine tl_nil (.then_normal ?_)
    refine .sub (F' := [(0, _), (1, _), (2, _)]) (.cons rfl (.cons rfl (.cons rfl .nil))) ?_
    refine x_region ?_
    refine tl_y rfl (y_load rfl rfl (.own inferInstance inferInstance)) ?_
    refine tl_y rfl (y_load rfl rfl (.own inferInstance inferInstance)) ?_
    refine tl_y rfl (y_load rfl rfl (.own inferInstance inferInstance)) ?_
    refine tl_y rfl (y_loadAgg rfl rfl (.own inferInstance inferInstance)) ?_
    refine tl_y rfl (y_nilCheck rfl) ?_
    refine tl_y rfl (y_fieldAddr rfl) ?_
    refine tl_e rfl (e_store rfl rfl (by rfl) (by rfl) inferInstance inferInstance inferInstance ?_)
    refine tl_y rfl (y_nilCheck rfl) ?_
    refine tl_y rfl (y_fieldAddr rfl) ?_
    refine tl_e rfl (e_store rfl rfl (by rfl) (by rfl) inferInstance inferInstance inferInstance ?_)
    refine tl_nil (.dropTo (dL d r3 (flushRes (laid S s b).1).1 (sL p d { s with at_ := s.to, num := s.num + 1, b := b } A l c :: (be, oe) :: sbox x0 x1 x2 p (s.num + 1) s.to A l c R)) inferInstance (end0 rfl hm (by
  rw [hsv, if_neg (by simp [h0]), if_neg (by simp [h1])]
  exact ⟨rfl, r3, A, l, c, hd3, hr.mono hm, rfl⟩)))
theorem Save_spec (hg : ShaG M) (h : IsDisk M r S) (ok : OkS S s) {B : Nat} (hw : S.within B) (hB : B ≤ 1000000) (hb : Bytes M A0 l0 c0 s.b) {A : Option Addr} {l c : Nat} {b : List UInt8} (hr : Bytes M A l c b) :
    Con Tryd.prog 26 #[.pointer (some ⟨p, 0, none⟩), .slice A l c] G M (dL d r S (sL p d s A0 l0 c0 :: R))
      (fun v M' L' => SK p d (saveRes S s b).1.1 (saveRes S s b).1.2 R M' L' ∧ v = .int .i64 (saveRes S s b).2) noPanic := by
  have hn := ok.n
  have hl := hr.size
  have hat := ok.at_
  have hroom : (if (s.n : Int) < 1 ∨ 8 < (s.n : Int) then 0 else 64 * (s.n : Int) - 28) = 64 * (s.n : Int) - 28 := by rw [if_neg (by omega)]
  refine enter (args := [_, _]) (fn := Tryd.f26) ⟨Tryd.func26, rfl, by kernel_rfl, by kernel_rfl⟩ 37 rfl ?_
  refine x_seq (x_region ?_)
  refine tl_e rfl (e_box rfl (fun b1 => ?_))
  refine tl_y rfl (y_assign rfl) ?_
  refine tl_nil (.then_normal ?_)
  refine x_seq (x_seq (x_region ?_))
  refine tl_y rfl (y_move (v := .slice _ _ _) rfl) ?_
  refine tl_y rfl (y_len rfl) ?_
  refine tl_y rfl (y_load rfl rfl (.own inferInstance inferInstance)) ?_
  refine tl_y rfl (y_nilCheck rfl) ?_
  refine tl_y rfl (y_fieldAddr rfl) ?_
  refine tl_y rfl (y_load rfl rfl (.own inferInstance inferInstance)) ?_
  refine tl_e rfl (e_call' rfl (Room_spec (s.n : Int)) ?_)
  rintro _ _ _ _ ⟨rfl, rfl, rfl⟩
  rw [hroom]
  refine tl_y rfl (y_gtr rfl rfl) ?_
  refine tl_nil (.then_normal ?_)
  refine .sub (F' := [(1, _), (2, _), (14, _)]) (.cons rfl (.cons rfl (.cons rfl .nil))) ?_
  refine x_cond rfl (fun hc1 => ?_) (fun hc1 => ?_)
  ·
    refine x_seq (x_region ?_)
    refine tl_y rfl (y_assign rfl) ?_
    refine tl_nil (.then_normal ?_)
    refine x_ret (.then_ret (.dropTo (dL d r S (sL p d s A0 l0 c0 :: R)) inferInstance (ret1 rfl rfl (Le.refl _) (by
  rw [show saveRes S s b = ((S, s), 1) by rw [saveRes, if_pos (by omega)]]
  exact ⟨⟨r, A0, l0, c0, h, hb, rfl⟩, rfl⟩))))
  ·
    refine x_skip (.then_normal ?_)
    refine x_seq ?_
    refine x_meet (I := fun F D M1 L1 => D = [] ∧ Le M M1 ∧ ∃ x1 x2 A1 c1, Bytes M1 A1 l c1 b ∧ PermTo L1 ((x2, .cells (List.toArray [.int .i64 0]) 3 (0, 0)) :: (x1, .cells (List.toArray [.int .u64 ((s.num + 1).toNat : Int), .slice A1 l c1]) 136 (0, 0)) :: (b1, .cells (List.toArray [.pointer (some ⟨p, 0, none⟩)]) 36 (0, 0)) :: dL d r S (sL p d s A0 l0 c0 :: R)) ∧ F = [(2, .pointer (some ⟨b1, 0, none⟩)), (5, .pointer (some ⟨x1, 0, none⟩)), (6, .pointer (some ⟨x2, 0, none⟩))]) ?_ (fun Jd3 => ?_)
    ·
      rintro _ _ M1 L1 ⟨rfl, hM1, x1, x2, A1, c1, hA1, hp, rfl⟩  -- slots [2, 5, 6]
      refine .to _ hp ?_
      refine x_join (I := fun F D M2 L2 => D = [] ∧ M1 = M2 ∧ L2 = (x2, .cells (List.toArray [.int .i64 s.to]) 3 (0, 0)) :: (x1, .cells (List.toArray [.int .u64 ((s.num + 1).toNat : Int), .slice A1 l c1]) 136 (0, 0)) :: (b1, .cells (List.toArray [.pointer (some ⟨p, 0, none⟩)]) 36 (0, 0)) :: dL d r S (sL p d s A0 l0 c0 :: R) ∧ F = [(2, .pointer (some ⟨b1, 0, none⟩)), (5, .pointer (some ⟨x1, 0, none⟩)), (6, .pointer (some ⟨x2, 0, none⟩))]) ?_ (fun Jj1 => ?_)
      ·
        rintro _ _ M2 L2 ⟨rfl, rfl, rfl, rfl⟩  -- slots [2, 5, 6]
        refine x_seq (x_region ?_)
        refine tl_y rfl (y_makeFunc rfl rfl) ?_
        refine tl_e rfl (e_call' rfl (caught_spec (first := []) (cap := [.pointer (some ⟨b1, 0, none⟩), .pointer (some ⟨x1, 0, none⟩), .pointer (some ⟨x2, 0, none⟩)])
  (K := fun M' L' => (saveRes S s b).2 = 0 ∧ SK p d (saveRes S s b).1.1 (saveRes S s b).1.2 (sbox b1 x1 x2 p (s.num + 1) s.to A1 l c1 R) M' L')
  (Kc := fun e M' L' => e = (saveRes S s b).2 ∧ SK p d (saveRes S s b).1.1 (saveRes S s b).1.2 (sbox b1 x1 x2 p (s.num + 1) s.to A1 l c1 R) M' L')
  (fun be oe => (Con.to (dL d r S (sL p d s A0 l0 c0 :: (be, oe) :: sbox b1 x1 x2 p (s.num + 1) s.to A1 l c1 R)) inferInstance (Save1_spec (hg.mono hM1) (h.mono hM1) ok hw hB (hb.mono hM1) hA1 (by omega))).postP
  (fun v M' L' _ ⟨h0, r', A', l', c', k1, k2, e⟩ => ⟨(be, oe) :: dL d r' (saveRes S s b).1.1 (sL p d (saveRes S s b).1.2 A' l' c' :: sbox b1 x1 x2 p (s.num + 1) s.to A1 l c1 R), by rw [e]; infer_instance, _, rfl, h0, r', A', l', c', k1, k2, rfl⟩)
  (fun ch M' L' _ ⟨h0, r', A', l', c', k1, k2, e⟩ => ⟨(be, oe) :: dL d r' (saveRes S s b).1.1 (sL p d (saveRes S s b).1.2 A' l' c' :: sbox b1 x1 x2 p (s.num + 1) s.to A1 l c1 R), by rw [e]; infer_instance, _, _, h0, rfl, rfl, r', A', l', c', k1, k2, rfl⟩))) ?_)
        rintro v3 M3 L3 hM3 hv
        obtain ⟨e, rfl, he, r3, A3, l3, c3, hd3, hb3, rfl⟩ : ∃ e, v3 = Value.int .i64 e ∧ e = (saveRes S s b).2 ∧ SK p d (saveRes S s b).1.1 (saveRes S s b).1.2 (sbox b1 x1 x2 p (s.num + 1) s.to A1 l c1 R) M3 L3 := by
          rcases hv with ⟨rfl, h0, hk⟩ | ⟨e, rfl, h0, hk⟩
          · exact ⟨0, rfl, h0.symm, hk⟩
          · exact ⟨e, rfl, h0, hk⟩
        subst he
        refine tl_y rfl (y_assign (v := .int _ _) rfl) ?_
        refine tl_nil (.then_normal ?_)
        refine .sub (F' := [(4, _)]) (.cons rfl .nil) ?_
        refine x_ret (.dropTo (dL d r3 (saveRes S s b).1.1 (sL p d (saveRes S s b).1.2 A3 l3 c3 :: R)) inferInstance (ret1 rfl rfl (hM1.trans hM3) ⟨⟨r3, A3, l3, c3, hd3, hb3, rfl⟩, rfl⟩))
      ·
        refine x_seq (x_region ?_)
        refine tl_y rfl (y_load rfl rfl (.own inferInstance inferInstance)) ?_
        refine tl_y rfl (y_nilCheck rfl) ?_
        refine tl_y rfl (y_fieldAddr rfl) ?_
        refine tl_y rfl (y_fieldAddr rfl) ?_
        refine tl_y rfl (y_load rfl rfl (.own inferInstance inferInstance)) ?_
        refine tl_y rfl (y_gtr rfl rfl) ?_
        refine tl_nil (.then_normal ?_)
        refine .sub (F' := [(2, _), (5, _), (6, _), (29, _)]) (.cons rfl (.cons rfl (.cons rfl (.cons rfl .nil)))) ?_
        refine x_cond rfl (fun hc2 => ?_) (fun hc2 => ?_)
        ·
          refine x_region ?_
          refine tl_y rfl (y_load rfl rfl (.own inferInstance inferInstance)) ?_
          refine tl_y rfl (y_nilCheck rfl) ?_
          refine tl_y rfl (y_fieldAddr rfl) ?_
          refine tl_y rfl (y_load rfl rfl (.own inferInstance inferInstance)) ?_
          refine tl_y rfl (y_subI rfl rfl (by omega)) ?_
          refine tl_e rfl (e_store rfl rfl (by rfl) (by rfl) inferInstance inferInstance inferInstance ?_)
          refine tl_nil (.then_normal (.sub (F' := [(2, _), (5, _), (6, _)]) (.cons rfl (.cons rfl (.cons rfl .nil))) (Jj1 _ _ _ _ ?_)))
          exact ⟨rfl, rfl, by rw [show s.to = 1 - s.at_ by rw [SS.to, if_pos (by omega)], show (1 : Int) - (s.at_ : Int) = ((1 - s.at_ : Nat) : Int) by omega], rfl⟩
        ·
          refine x_skip (.then_normal (.sub (F' := [(2, _), (5, _), (6, _)]) (.cons rfl (.cons rfl (.cons rfl .nil))) (Jj1 _ _ _ _ ?_)))
          exact ⟨rfl, rfl, by rw [show s.to = 0 by rw [SS.to, if_neg (by omega)]]; rfl, rfl⟩
    ·
      refine x_draw 11 hmix rfl ?_
      refine to_y 0 rfl (by kernel_rfl) rfl (y_load rfl rfl (.own inferInstance inferInstance)) ?_
      refine to_p 1 rfl (by kernel_rfl) rfl (y_nilCheck rfl) ?_
      refine to_p 2 rfl (by kernel_rfl) rfl (y_fieldAddr rfl) ?_
      refine to_p 3 rfl (by kernel_rfl) rfl (y_fieldAddr rfl) ?_
      refine to_y 4 rfl (by kernel_rfl) rfl (y_load rfl rfl (.own inferInstance inferInstance)) ?_
      refine to_p 5 rfl (by kernel_rfl) rfl (y_add64 (b := 1) rfl rfl) ?_
      refine to_p 6 rfl (by kernel_rfl) rfl (y_move (v := .slice _ _ _) rfl) ?_
      refine to_three 7 9 10 (by kernel_rfl) ?_ ?_ ?_
      ·
        refine two_e 7 rfl rfl (e_call' rfl (bytesClone_spec hr (by omega)) ?_)
        rintro _ M9 _ hM9 ⟨rfl, A9, c9, rfl, hA9⟩
        refine ⟨⟨(by first | exact Le.refl _ | assumption), Keeps.mem⟩, ?_⟩
        refine to_p 8 rfl (by kernel_rfl) rfl (y_build rfl) ?_
        refine to_two 9 10 (by kernel_rfl) ?_ ?_
        ·
          refine two_e 9 rfl rfl (e_alloc (fun b2 => ?_))
          refine ⟨⟨(by first | exact Le.refl _ | assumption), Keeps.mem⟩, ?_⟩
          refine to_e 10 rfl (by kernel_rfl) rfl (e_alloc (fun b3 => ?_))
          refine ⟨⟨(by first | exact Le.refl _ | assumption), Keeps.mem⟩, ?_⟩
          refine to_t 11 rfl (by kernel_rfl) (by kernel_rfl) rfl (e_store rfl rfl (by rfl) (by rfl) inferInstance inferInstance inferInstance ?_)
          refine to_t 12 rfl (by kernel_rfl) (by kernel_rfl) rfl (e_store rfl rfl (by rfl) (by rfl) inferInstance inferInstance inferInstance ?_)
          refine to_nil (by kernel_rfl) (.then_normal (.sub (F' := [(2, _), (5, _), (6, _)]) (.cons rfl (.cons rfl (.cons rfl .nil))) (Jd3 _ _ _ _ ?_)))
          exact ⟨rfl, hM9, _, _, _, _, hA9, inferInstance, rfl⟩
        ·
          refine two_e 10 rfl rfl (e_alloc (fun b4 => ?_))
          refine ⟨⟨(by first | exact Le.refl _ | assumption), Keeps.mem⟩, ?_⟩
          refine to_e 9 rfl (by kernel_rfl) rfl (e_alloc (fun b5 => ?_))
          refine ⟨⟨(by first | exact Le.refl _ | assumption), Keeps.mem⟩, ?_⟩
          refine to_t 11 rfl (by kernel_rfl) (by kernel_rfl) rfl (e_store rfl rfl (by rfl) (by rfl) inferInstance inferInstance inferInstance ?_)
          refine to_t 12 rfl (by kernel_rfl) (by kernel_rfl) rfl (e_store rfl rfl (by rfl) (by rfl) inferInstance inferInstance inferInstance ?_)
          refine to_nil (by kernel_rfl) (.then_normal (.sub (F' := [(2, _), (5, _), (6, _)]) (.cons rfl (.cons rfl (.cons rfl .nil))) (Jd3 _ _ _ _ ?_)))
          exact ⟨rfl, hM9, _, _, _, _, hA9, inferInstance, rfl⟩
      ·
        refine two_e 9 rfl rfl (e_alloc (fun b6 => ?_))
        refine ⟨⟨(by first | exact Le.refl _ | assumption), Keeps.mem⟩, ?_⟩
        refine to_two 7 10 (by kernel_rfl) ?_ ?_
        ·
          refine two_e 7 rfl rfl (e_call' rfl (bytesClone_spec hr (by omega)) ?_)
          rintro _ M9 _ hM9 ⟨rfl, A9, c9, rfl, hA9⟩
          refine ⟨⟨(by first | exact Le.refl _ | assumption), Keeps.mem⟩, ?_⟩
          refine to_p 8 rfl (by kernel_rfl) rfl (y_build rfl) ?_
          refine to_e 10 rfl (by kernel_rfl) rfl (e_alloc (fun b7 => ?_))
          refine ⟨⟨(by first | exact Le.refl _ | assumption), Keeps.mem⟩, ?_⟩
          refine to_t 11 rfl (by kernel_rfl) (by kernel_rfl) rfl (e_store rfl rfl (by rfl) (by rfl) inferInstance inferInstance inferInstance ?_)
          refine to_t 12 rfl (by kernel_rfl) (by kernel_rfl) rfl (e_store rfl rfl (by rfl) (by rfl) inferInstance inferInstance inferInstance ?_)
          refine to_nil (by kernel_rfl) (.then_normal (.sub (F' := [(2, _), (5, _), (6, _)]) (.cons rfl (.cons rfl (.cons rfl .nil))) (Jd3 _ _ _ _ ?_)))
          exact ⟨rfl, hM9, _, _, _, _, hA9, inferInstance, rfl⟩
        ·
          refine two_e 10 rfl rfl (e_alloc (fun b8 => ?_))
          refine ⟨⟨(by first | exact Le.refl _ | assumption), Keeps.mem⟩, ?_⟩
          refine to_e 7 rfl (by kernel_rfl) rfl (e_call' rfl (bytesClone_spec hr (by omega)) ?_)
          rintro _ M9 _ hM9 ⟨rfl, A9, c9, rfl, hA9⟩
          refine ⟨⟨(by first | exact Le.refl _ | assumption), Keeps.mem⟩, ?_⟩
          refine to_p 8 rfl (by kernel_rfl) rfl (y_build rfl) ?_
          refine to_t 11 rfl (by kernel_rfl) (by kernel_rfl) rfl (e_store rfl rfl (by rfl) (by rfl) inferInstance inferInstance inferInstance ?_)
          refine to_t 12 rfl (by kernel_rfl) (by kernel_rfl) rfl (e_store rfl rfl (by rfl) (by rfl) inferInstance inferInstance inferInstance ?_)
          refine to_nil (by kernel_rfl) (.then_normal (.sub (F' := [(2, _), (5, _), (6, _)]) (.cons rfl (.cons rfl (.cons rfl .nil))) (Jd3 _ _ _ _ ?_)))
          exact ⟨rfl, hM9, _, _, _, _, hA9, inferInstance, rfl⟩
      ·
        refine two_e 10 rfl rfl (e_alloc (fun b9 => ?_))
        refine ⟨⟨(by first | exact Le.refl _ | assumption), Keeps.mem⟩, ?_⟩
        refine to_two 7 9 (by kernel_rfl) ?_ ?_
        ·
          refine two_e 7 rfl rfl (e_call' rfl (bytesClone_spec hr (by omega)) ?_)
          rintro _ M9 _ hM9 ⟨rfl, A9, c9, rfl, hA9⟩
          refine ⟨⟨(by first | exact Le.refl _ | assumption), Keeps.mem⟩, ?_⟩
          refine to_p 8 rfl (by kernel_rfl) rfl (y_build rfl) ?_
          refine to_e 9 rfl (by kernel_rfl) rfl (e_alloc (fun b10 => ?_))
          refine ⟨⟨(by first | exact Le.refl _ | assumption), Keeps.mem⟩, ?_⟩
          refine to_t 11 rfl (by kernel_rfl) (by kernel_rfl) rfl (e_store rfl rfl (by rfl) (by rfl) inferInstance inferInstance inferInstance ?_)
          refine to_t 12 rfl (by kernel_rfl) (by kernel_rfl) rfl (e_store rfl rfl (by rfl) (by rfl) inferInstance inferInstance inferInstance ?_)
          refine to_nil (by kernel_rfl) (.then_normal (.sub (F' := [(2, _), (5, _), (6, _)]) (.cons rfl (.cons rfl (.cons rfl .nil))) (Jd3 _ _ _ _ ?_)))
          exact ⟨rfl, hM9, _, _, _, _, hA9, inferInstance, rfl⟩
        ·
          refine two_e 9 rfl rfl (e_alloc (fun b11 => ?_))
          refine ⟨⟨(by first | exact Le.refl _ | assumption), Keeps.mem⟩, ?_⟩
          refine to_e 7 rfl (by kernel_rfl) rfl (e_call' rfl (bytesClone_spec hr (by omega)) ?_)
          rintro _ M9 _ hM9 ⟨rfl, A9, c9, rfl, hA9⟩
          refine ⟨⟨(by first | exact Le.refl _ | assumption), Keeps.mem⟩, ?_⟩
          refine to_p 8 rfl (by kernel_rfl) rfl (y_build rfl) ?_
          refine to_t 11 rfl (by kernel_rfl) (by kernel_rfl) rfl (e_store rfl rfl (by rfl) (by rfl) inferInstance inferInstance inferInstance ?_)
          refine to_t 12 rfl (by kernel_rfl) (by kernel_rfl) rfl (e_store rfl rfl (by rfl) (by rfl) inferInstance inferInstance inferInstance ?_)
          refine to_nil (by kernel_rfl) (.then_normal (.sub (F' := [(2, _), (5, _), (6, _)]) (.cons rfl (.cons rfl (.cons rfl .nil))) (Jd3 _ _ _ _ ?_)))
          exact ⟨rfl, hM9, _, _, _, _, hA9, inferInstance, rfl⟩
end
end Go.Proofs.YtbgdjdhbejbhkaaDoor
