/-
Contracts of functions, each proved by a walk through its code.
-/
import Derived.Test.YtlednbmmchalkaaRefUp
set_option linter.unusedVariables false
set_option linter.unusedSimpArgs false
namespace Go.Proofs.Ytlednbmmchalkaa
open Go Go.Eng
/-- A step of a script. -/
structure ActV where
  kind : Int
  i : Int
  c : UInt8
  short : Bool
  choices : List UInt8
  fail : List Int
  stop : Int
abbrev acells (a : ActV) (Ac : Option Addr) (nc cc : Nat) (Af : Option Addr) (nf cf : Nat) : List Value := [.int .i64 a.kind, .int .i64 a.i, .int .u8 a.c.toNat, .bool a.short, .slice Ac nc cc, .slice Af nf cf, .int .i64 a.stop]
abbrev rowOf (a : ActV) : List UInt8 := rowB a.c (if a.short then 63 else 64)
/-- The disk behind a step. -/
def stepD (a : ActV) (S : DS) : DS :=
  if a.kind = 0 then (writeRes S a.i (rowOf a)).1 else if a.kind = 1 then S else if a.kind = 2 then (flushRes S).1 else
  if a.kind = 3 then upped S a.choices a.fail a.stop else if a.kind = 4 then { S with down := true } else if a.kind = 5 then { S with fail := a.fail, stop := a.stop } else S
theorem within_step {S : DS} {B : Nat} (h : S.within B) (a : ActV) : (stepD a S).within (B + 1) := by
  have h' : S.within (B + 1) := ⟨h.1, by have := h.2.1; omega, by have := h.2.2; omega⟩
  unfold stepD
  split
  · exact within_write h _ _
  · split
    · exact h'
    · split
      · exact within_flush h
      · split
        · exact within_up _ _ _
        · split
          · exact h'
          · split <;> exact h'
def BK (p q : Nat) (S : DS) (R : Own) (M' : Mem) (L' : Own) : Prop := ∃ rd rr, IsDisk M' rd S ∧ IsRef M' rr S ∧ L' = dL p rd S (rL q rr S R)
section
variable {G : World} {M : Mem} {R : Own} {p q : Nat} {rd : DRep} {rr : RRep} {S : DS}
theorem do_spec (hd : IsDisk M rd S) (hr : IsRef M rr S) {B : Nat} (hB : S.within B) (hB9 : B ≤ 100000) (a : ActV) {Ac : Option Addr} {nc cc : Nat} {Af : Option Addr} {nf cf : Nat} (hcs : Bytes M Ac nc cc a.choices) (hfs : Ints M Af nf cf a.fail) (hnf : nf ≤ 17592186044416) :
    Con Try.prog 20 #[.pointer (some ⟨p, 0, none⟩), .pointer (some ⟨q, 0, none⟩), .agg (acells a Ac nc cc Af nf cf).toArray] G M (dL p rd S (rL q rr S R)) (fun v M' L' => v = .bool true ∧ BK p q (stepD a S) R M' L') noPanic := by
  obtain ⟨b0, b1', b2'⟩ := hB
  refine enter (args := [_, _, _]) (fn := Try.f20) ⟨Try.func20, rfl, by kernel_rfl, by kernel_rfl⟩ 97 rfl ?_
  refine x_seq (x_region ?_)
  refine tl_e rfl (e_box rfl (fun b1 => ?_))
  refine tl_y rfl (y_assign rfl) ?_
  refine tl_nil (.then_normal ?_)
  refine x_seq (x_seq (x_region ?_))
  refine tl_y rfl (y_fieldAddr rfl) ?_
  refine tl_y rfl (y_load rfl rfl (.own inferInstance inferInstance)) ?_
  refine tl_nil (.then_normal ?_)
  refine x_block ?_
  refine x_seq (x_region ?_)
  refine tl_y rfl (y_eql rfl rfl) ?_
  refine tl_y rfl (y_assign (v := .bool _) rfl) ?_
  refine tl_nil (.then_normal ?_)
  refine .sub (F' := [(0, _), (1, _), (5, _), (12, _), (13, _)]) (.cons rfl (.cons rfl (.cons rfl (.cons rfl (.cons rfl .nil))))) ?_
  refine x_cond rfl (fun hc1 => ?_) (fun hc1 => ?_)
  ·
    refine x_seq ?_
    refine x_draw0 20 ([(b1, .cells (List.toArray (acells a Ac nc cc Af nf cf)) 51 (0, 0))]) Keeps.mem hmix rfl ?_
    refine to_p 0 rfl (by kernel_rfl) rfl (y_move (v := .pointer _) rfl) ?_
    refine to_p 1 rfl (by kernel_rfl) rfl (y_fieldAddr rfl) ?_
    refine to_y 2 rfl (by kernel_rfl) rfl (y_load rfl rfl (.own inferInstance inferInstance)) ?_
    refine to_p 3 rfl (by kernel_rfl) rfl (y_fieldAddr rfl) ?_
    refine to_y 4 rfl (by kernel_rfl) rfl (y_load rfl rfl (.own inferInstance inferInstance)) ?_
    refine to_p 5 rfl (by kernel_rfl) rfl (y_fieldAddr rfl) ?_
    refine to_y 6 rfl (by kernel_rfl) rfl (y_load rfl rfl (.own inferInstance inferInstance)) ?_
    refine to_p 9 rfl (by kernel_rfl) rfl (y_move (v := .pointer _) rfl) ?_
    refine to_p 10 rfl (by kernel_rfl) rfl (y_fieldAddr rfl) ?_
    refine to_y 11 rfl (by kernel_rfl) rfl (y_load rfl rfl (.own inferInstance inferInstance)) ?_
    refine to_p 12 rfl (by kernel_rfl) rfl (y_fieldAddr rfl) ?_
    refine to_y 13 rfl (by kernel_rfl) rfl (y_load rfl rfl (.own inferInstance inferInstance)) ?_
    refine to_p 14 rfl (by kernel_rfl) rfl (y_fieldAddr rfl) ?_
    refine to_y 15 rfl (by kernel_rfl) rfl (y_load rfl rfl (.own inferInstance inferInstance)) ?_
    refine to_e 7 rfl (by kernel_rfl) rfl (e_call' rfl (row_spec a.c a.short) ?_)
    rintro _ M1 L1 hM1 ⟨rfl, A1, rfl, hA1⟩
    refine ⟨⟨(by first | exact Le.refl _ | assumption), Keeps.mem⟩, ?_⟩
    refine to_e 8 rfl (by kernel_rfl) rfl (e_call' rfl (Con.to (dL p rd S ((b1, .cells (List.toArray (acells a Ac nc cc Af nf cf)) 51 (0, 0)) :: rL q rr S R)) inferInstance (Write_spec (hd.mono hM1) (by omega) (by omega) hA1)) ?_)
    rintro _ M2 L2 hM2 ⟨⟨r2, hd2, rfl⟩, rfl⟩
    refine ⟨⟨hM1.trans hM2, Keeps.mem⟩, ?_⟩
    refine to_e 16 rfl (by kernel_rfl) rfl (e_call' rfl (row_spec a.c a.short) ?_)
    rintro _ M3 L3 hM3 ⟨rfl, A3, rfl, hA3⟩
    refine ⟨⟨hM1.trans (hM2.trans hM3), Keeps.mem⟩, ?_⟩
    refine to_e 17 rfl (by kernel_rfl) rfl (e_call' rfl (Con.to (rL q rr S ((b1, .cells (List.toArray (acells a Ac nc cc Af nf cf)) 51 (0, 0)) :: dL p r2 (writeRes S a.i (rowOf a)).1 R)) inferInstance (RWrite_spec (hr.mono (hM1.trans (hM2.trans hM3))) (by omega) (by omega) hA3)) ?_)
    rintro _ M4 L4 hM4 ⟨⟨r4, hr4, rfl⟩, rfl⟩
    refine ⟨⟨hM1.trans (hM2.trans (hM3.trans hM4)), Keeps.mem⟩, ?_⟩
    refine to_p 18 rfl (by kernel_rfl) rfl (y_eql rfl rfl) ?_
    refine to_p 19 rfl (by kernel_rfl) rfl (y_assign (v := .bool _) rfl) ?_
    refine to_nil (by kernel_rfl) (.then_normal ?_)
    refine .sub (F' := [(6, _)]) (.cons rfl .nil) ?_
    refine x_ret (.block_ret (.then_ret (.dropTo (dL p r2 (writeRes S a.i (rowOf a)).1 (rL q r4 (writeRes S a.i (rowOf a)).1 R)) inferInstance (ret1 rfl rfl (hM1.trans (hM2.trans (hM3.trans hM4))) (by
  rw [show stepD a S = (writeRes S a.i (rowOf a)).1 by simp [stepD, hc1]]
  exact ⟨by simp, r2, r4, hd2.mono (hM3.trans hM4), hr4, rfl⟩)))))
  ·
    refine x_seq (x_region ?_)
    refine tl_y rfl (y_eql rfl rfl) ?_
    refine tl_y rfl (y_assign (v := .bool _) rfl) ?_
    refine tl_nil (.then_normal ?_)
    refine x_cond rfl (fun hc2 => ?_) (fun hc2 => ?_)
    ·
      refine x_seq (x_region ?_)
      refine tl_y rfl (y_move (v := .pointer _) rfl) ?_
      refine tl_y rfl (y_fieldAddr rfl) ?_
      refine tl_y rfl (y_load rfl rfl (.own inferInstance inferInstance)) ?_
      refine tl_e rfl (e_call' rfl (Con.to (dL p rd S ((b1, .cells (List.toArray (acells a Ac nc cc Af nf cf)) 51 (0, 0)) :: rL q rr S R)) inferInstance (Read_spec hd a.i)) ?_)
      rintro _ M1 L1 hM1 ⟨rfl, A1, n1, c1, rfl, hA1⟩
      refine tl_y rfl (y_move (v := .tuple _) rfl) ?_
      refine tl_y rfl (y_extract rfl) ?_
      refine tl_y rfl (y_extract rfl) ?_
      refine tl_y rfl (y_assign (v := .slice _ _ _) rfl) ?_
      refine tl_y rfl (y_assign (v := .int _ _) rfl) ?_
      refine tl_nil (.then_normal ?_)
      refine .sub (F' := [(1, _), (5, _), (7, _), (8, _)]) (.cons rfl (.cons rfl (.cons rfl (.cons rfl .nil)))) ?_
      refine x_seq (x_region ?_)
      refine tl_y rfl (y_move (v := .pointer _) rfl) ?_
      refine tl_y rfl (y_fieldAddr rfl) ?_
      refine tl_y rfl (y_load rfl rfl (.own inferInstance inferInstance)) ?_
      refine tl_e rfl (e_call' rfl (Con.to (rL q rr S ((b1, .cells (List.toArray (acells a Ac nc cc Af nf cf)) 51 (0, 0)) :: dL p rd S R)) inferInstance (RRead_spec (hr.mono hM1) a.i)) ?_)
      rintro _ M2 L2 hM2 ⟨rfl, A2, n2, c2, rfl, hA2⟩
      refine tl_y rfl (y_move (v := .tuple _) rfl) ?_
      refine tl_y rfl (y_extract rfl) ?_
      refine tl_y rfl (y_extract rfl) ?_
      refine tl_y rfl (y_assign (v := .slice _ _ _) rfl) ?_
      refine tl_y rfl (y_assign (v := .int _ _) rfl) ?_
      refine tl_nil (.then_normal ?_)
      refine .sub (F' := [(7, _), (8, _), (9, _), (10, _)]) (.cons rfl (.cons rfl (.cons rfl (.cons rfl .nil)))) ?_
      refine x_seq (x_region ?_)
      refine tl_y rfl (y_move (v := .slice _ _ _) rfl) ?_
      refine tl_y rfl (y_move (v := .slice _ _ _) rfl) ?_
      refine tl_e rfl (e_call' rfl (same_spec (hA1.mono hM2) hA2) ?_)
      rintro _ M3 L3 hM3 ⟨rfl, rfl, rfl⟩
      refine tl_y rfl (y_move (v := .bool _) rfl) ?_
      refine tl_set (s := 53) (u := .bool true) rfl (by simp) ?_
      refine tl_y rfl (y_move (v := .int _ _) rfl) ?_
      refine tl_y rfl (y_move (v := .int _ _) rfl) ?_
      refine tl_y rfl (y_eql rfl rfl) ?_
      refine tl_y rfl (y_pickT rfl rfl) ?_
      refine tl_y rfl (y_assign (v := .bool _) rfl) ?_
      refine tl_nil (.then_normal ?_)
      refine .sub (F' := [(6, _)]) (.cons rfl .nil) ?_
      refine x_ret (.block_ret (.then_ret (.dropTo (dL p rd S (rL q rr S R)) inferInstance (ret1 rfl rfl (hM1.trans hM2) (by
  rw [show stepD a S = S by simp [stepD, hc2]]
  exact ⟨by simp, rd, rr, hd.mono (hM1.trans hM2), hr.mono (hM1.trans hM2), rfl⟩)))))
    ·
      refine x_seq (x_region ?_)
      refine tl_y rfl (y_eql rfl rfl) ?_
      refine tl_y rfl (y_assign (v := .bool _) rfl) ?_
      refine tl_nil (.then_normal ?_)
      refine .sub (F' := [(0, _), (1, _), (5, _), (12, _), (58, _)]) (.cons rfl (.cons rfl (.cons rfl (.cons rfl (.cons rfl .nil))))) ?_
      refine x_cond rfl (fun hc3 => ?_) (fun hc3 => ?_)
      ·
        refine x_seq (x_region ?_)
        refine tl_y rfl (y_move (v := .pointer _) rfl) ?_
        refine tl_e rfl (e_call' rfl (Con.to (dL p rd S ((b1, .cells (List.toArray (acells a Ac nc cc Af nf cf)) 51 (0, 0)) :: rL q rr S R)) inferInstance (Flush_spec hd (by omega) (by omega))) ?_)
        rintro _ M1 L1 hM1 ⟨⟨r1, hd1, rfl⟩, rfl⟩
        refine tl_y rfl (y_move (v := .pointer _) rfl) ?_
        refine tl_e rfl (e_call' rfl (Con.to (rL q rr S ((b1, .cells (List.toArray (acells a Ac nc cc Af nf cf)) 51 (0, 0)) :: dL p r1 (doingRes S (flushed { S with count := S.count + 1 })).1 R)) inferInstance (RFlush_spec (hr.mono hM1) (by omega))) ?_)
        rintro _ M2 L2 hM2 ⟨⟨r2, hr2, rfl⟩, rfl⟩
        refine tl_y rfl (y_eql rfl rfl) ?_
        refine tl_y rfl (y_assign (v := .bool _) rfl) ?_
        refine tl_nil (.then_normal ?_)
        refine .sub (F' := [(6, _)]) (.cons rfl .nil) ?_
        refine x_ret (.block_ret (.then_ret (.dropTo (dL p r1 (doingRes S (flushed { S with count := S.count + 1 })).1 (rL q r2 (doingRes S (flushed { S with count := S.count + 1 })).1 R)) inferInstance (ret1 rfl rfl (hM1.trans hM2) (by
  rw [show stepD a S = (doingRes S (flushed { S with count := S.count + 1 })).1 by simp [stepD, hc3]]
  exact ⟨by simp, r1, r2, hd1.mono hM2, hr2, rfl⟩)))))
      ·
        refine x_seq (x_region ?_)
        refine tl_y rfl (y_eql rfl rfl) ?_
        refine tl_y rfl (y_assign (v := .bool _) rfl) ?_
        refine tl_nil (.then_normal ?_)
        refine x_cond rfl (fun hc4 => ?_) (fun hc4 => ?_)
        ·
          refine x_seq (x_region ?_)
          refine tl_y rfl (y_move (v := .pointer _) rfl) ?_
          refine tl_y rfl (y_fieldAddr rfl) ?_
          refine tl_y rfl (y_load rfl rfl (.own inferInstance inferInstance)) ?_
          refine tl_y rfl (y_fieldAddr rfl) ?_
          refine tl_y rfl (y_loadAgg rfl rfl (.own inferInstance inferInstance)) ?_
          refine tl_e rfl (e_call' rfl (Con.to (dL p rd S ((b1, .cells (List.toArray (acells a Ac nc cc Af nf cf)) 51 (0, 0)) :: rL q rr S R)) inferInstance (Up_spec hd (by omega) hcs hfs hnf a.stop)) ?_)
          rintro _ M1 L1 hM1 ⟨r1, hd1, rfl⟩
          refine tl_nil (.then_normal ?_)
          refine .sub (F' := [(1, _), (5, _)]) (.cons rfl (.cons rfl .nil)) ?_
          refine x_region ?_
          refine tl_y rfl (y_move (v := .pointer _) rfl) ?_
          refine tl_y rfl (y_fieldAddr rfl) ?_
          refine tl_y rfl (y_load rfl rfl (.own inferInstance inferInstance)) ?_
          refine tl_y rfl (y_fieldAddr rfl) ?_
          refine tl_y rfl (y_loadAgg rfl rfl (.own inferInstance inferInstance)) ?_
          refine tl_e rfl (e_call' rfl (Con.to (rL q rr S ((b1, .cells (List.toArray (acells a Ac nc cc Af nf cf)) 51 (0, 0)) :: dL p r1 (upped S a.choices a.fail a.stop) R)) inferInstance (RUp_spec (hr.mono hM1) (hcs.mono hM1) (hfs.mono hM1) a.stop)) ?_)
          rintro _ M2 L2 hM2 ⟨r2, hr2, rfl⟩
          refine tl_nil (.block_normal (.then_normal ?_))
          refine .sub (F' := []) .nil ?_
          refine x_seq (x_region ?_)
          refine tl_y rfl (y_assign rfl) ?_
          refine tl_nil (.then_normal ?_)
          refine x_ret (.dropTo (dL p r1 (upped S a.choices a.fail a.stop) (rL q r2 (upped S a.choices a.fail a.stop) R)) inferInstance (ret1 rfl rfl (hM1.trans hM2) (by
  rw [show stepD a S = upped S a.choices a.fail a.stop by simp [stepD, hc4]]
  exact ⟨rfl, r1, r2, hd1.mono hM2, hr2, rfl⟩)))
        ·
          refine x_seq (x_region ?_)
          refine tl_y rfl (y_eql rfl rfl) ?_
          refine tl_y rfl (y_assign (v := .bool _) rfl) ?_
          refine tl_nil (.then_normal ?_)
          refine .sub (F' := [(0, _), (1, _), (5, _), (12, _), (79, _)]) (.cons rfl (.cons rfl (.cons rfl (.cons rfl (.cons rfl .nil))))) ?_
          refine x_cond rfl (fun hc5 => ?_) (fun hc5 => ?_)
          ·
            refine x_seq (x_region ?_)
            refine tl_y rfl (y_move (v := .pointer _) rfl) ?_
            refine tl_e rfl (e_call' rfl (Con.to (dL p rd S ((b1, .cells (List.toArray (acells a Ac nc cc Af nf cf)) 51 (0, 0)) :: rL q rr S R)) inferInstance (Stop_spec hd)) ?_)
            rintro _ M1 L1 hM1 ⟨rfl, r1, hd1, rfl⟩
            refine tl_nil (.then_normal ?_)
            refine .sub (F' := [(1, _)]) (.cons rfl .nil) ?_
            refine x_region ?_
            refine tl_y rfl (y_move (v := .pointer _) rfl) ?_
            refine tl_y rfl (y_nilCheck rfl) ?_
            refine tl_y rfl (y_fieldAddr rfl) ?_
            refine tl_e rfl (e_store rfl rfl (by rfl) (by rfl) inferInstance inferInstance inferInstance ?_)
            refine tl_nil (.block_normal (.then_normal ?_))
            refine .sub (F' := []) .nil ?_
            refine x_seq (x_region ?_)
            refine tl_y rfl (y_assign rfl) ?_
            refine tl_nil (.then_normal ?_)
            refine x_ret (.dropTo (dL p r1 { S with down := true } (rL q rr { S with down := true } R)) inferInstance (ret1 rfl rfl (Le.refl _) (by
  rw [show stepD a S = { S with down := true } by simp [stepD, hc5]]
  exact ⟨rfl, r1, rr, hd1, ⟨hr.s, hr.w, hr.h, hr.sure, hr.what, hr.fail, hr.sl, hr.pl, hr.sz⟩, rfl⟩)))
          ·
            refine x_seq (x_region ?_)
            refine tl_y rfl (y_eql rfl rfl) ?_
            refine tl_y rfl (y_assign (v := .bool _) rfl) ?_
            refine tl_nil (.then_normal ?_)
            refine x_cond rfl (fun hc6 => ?_) (fun hc6 => ?_)
            ·
              refine x_seq (x_region ?_)
              refine tl_y rfl (y_move (v := .pointer _) rfl) ?_
              refine tl_y rfl (y_fieldAddr rfl) ?_
              refine tl_y rfl (y_loadAgg rfl rfl (.own inferInstance inferInstance)) ?_
              refine tl_e rfl (e_call' rfl (Con.to (dL p rd S ((b1, .cells (List.toArray (acells a Ac nc cc Af nf cf)) 51 (0, 0)) :: rL q rr S R)) inferInstance (Plan_spec hd hfs hnf a.stop)) ?_)
              rintro _ M1 L1 hM1 ⟨r1, hd1, rfl⟩
              refine tl_nil (.then_normal ?_)
              refine .sub (F' := [(1, _), (5, _)]) (.cons rfl (.cons rfl .nil)) ?_
              refine x_region ?_
              refine tl_y rfl (y_move (v := .pointer _) rfl) ?_
              refine tl_y rfl (y_fieldAddr rfl) ?_
              refine tl_y rfl (y_loadAgg rfl rfl (.own inferInstance inferInstance)) ?_
              refine tl_y rfl (y_nilCheck rfl) ?_
              refine tl_y rfl (y_fieldAddr rfl) ?_
              refine tl_e rfl (e_store rfl rfl (by rfl) (by rfl) inferInstance inferInstance inferInstance ?_)
              refine tl_nil (.block_normal (.then_normal ?_))
              refine .sub (F' := []) .nil ?_
              refine x_seq (x_region ?_)
              refine tl_y rfl (y_assign rfl) ?_
              refine tl_nil (.then_normal ?_)
              refine x_ret (.dropTo (dL p r1 { S with fail := a.fail, stop := a.stop } (rL q { rr with fa := Af, fn := nf, fc := cf } { S with fail := a.fail, stop := a.stop } R)) inferInstance (ret1 rfl rfl hM1 (by
  rw [show stepD a S = { S with fail := a.fail, stop := a.stop } by simp [stepD, hc6]]
  exact ⟨rfl, r1, { rr with fa := Af, fn := nf, fc := cf }, hd1, ⟨hr.s, hr.w, hr.h, hr.sure.mono hM1, hr.what.mono hM1, hfs.mono hM1, hr.sl, hr.pl, hr.sz⟩, rfl⟩)))
            ·
              refine x_skip (.block_normal (.then_normal ?_))
              refine .sub (F' := []) .nil ?_
              refine x_seq (x_region ?_)
              refine tl_y rfl (y_assign rfl) ?_
              refine tl_nil (.then_normal ?_)
              refine x_ret (.dropTo (dL p rd S (rL q rr S R)) inferInstance (ret1 rfl rfl (Le.refl _) (by
  rw [show stepD a S = S by simp [stepD, hc1, hc2, hc3, hc4, hc5, hc6]]
  exact ⟨rfl, rd, rr, hd, hr, rfl⟩)))
/-- The steps of a script, as they lie. -/
inductive Acts (M : Mem) : List Value → List ActV → Prop
  | nil : Acts M [] []
  | cons {a : ActV} {Ac : Option Addr} {nc cc : Nat} {Af : Option Addr} {nf cf : Nat} {vs : List Value} {as_ : List ActV} : Bytes M Ac nc cc a.choices → Ints M Af nf cf a.fail → Acts M vs as_ → Acts M (acells a Ac nc cc Af nf cf ++ vs) (a :: as_)
theorem Acts.len {M : Mem} {vs : List Value} {as_ : List ActV} (h : Acts M vs as_) : vs.length = as_.length * 7 := by
  induction h with
  | nil => rfl
  | cons _ _ _ ih => simp; omega
theorem Acts.get {M : Mem} {vs : List Value} {as_ : List ActV} (h : Acts M vs as_) : ∀ k, k < as_.length → ∃ a Ac nc cc Af nf cf, (vs.drop (k * 7)).take 7 = acells a Ac nc cc Af nf cf ∧ Bytes M Ac nc cc a.choices ∧ Ints M Af nf cf a.fail := by
  induction h with
  | nil => intro k hk; simp at hk
  | @cons a Ac nc cc Af nf cf vs as_ hb hi ht ih =>
    intro k hk
    cases k with
    | zero => exact ⟨a, Ac, nc, cc, Af, nf, cf, by simp, hb, hi⟩
    | succ k =>
      obtain ⟨a', x1, x2, x3, x4, x5, x6, h1, h2, h3⟩ := ih k (by simpa using hk)
      refine ⟨a', x1, x2, x3, x4, x5, x6, ?_, h2, h3⟩
      rw [← h1, show (k + 1) * 7 = 7 + k * 7 by omega, ← List.drop_drop]
      rfl
theorem DiskPlays_spec (x : UInt8) {A : Option Addr} {n c : Nat} {vs : List Value} {as_ : List ActV} (hrow : Row M 7 A n c vs) (hacts : Acts M vs as_) :
    Con Try.prog 6 #[.int .u8 x.toNat, .slice A n c] G M R (fun v M' L' => v = .bool true) noPanic := by
  have hx := x.toNat_lt
  have hal := hacts.len
  have hvl := hrow.len
  have hrm := hrow.max
  have hrl := hrow.le
  refine enter (args := [_, _]) (fn := Try.f6) ⟨Try.func6, rfl, by kernel_rfl, by kernel_rfl⟩ 96 rfl ?_
  refine x_seq (x_region ?_)
  refine tl_y rfl (y_assign rfl) ?_
  refine tl_nil (.then_normal ?_)
  refine x_seq (x_seq (x_region ?_))
  refine tl_e rfl (e_call' rfl awake_spec ?_)
  rintro _ M1 L1 hM1 ⟨rfl, rfl⟩
  have hm := hM1
  refine tl_y rfl (y_not rfl) ?_
  refine tl_nil (.then_normal ?_)
  refine x_false rfl (rfl) ?_
  refine x_skip (.then_normal ?_)
  refine x_seq (x_region ?_)
  refine tl_y rfl (y_move (v := .int _ _) rfl) ?_
  refine tl_y rfl (y_convI rfl (by omega)) ?_
  refine tl_y rfl (y_remI rfl rfl (by omega)) ?_
  refine tl_y rfl (y_addI rfl rfl (by omega)) ?_
  refine tl_y rfl (y_assign (v := .int _ _) rfl) ?_
  refine tl_nil (.then_normal ?_)
  refine .sub (F' := [(1, _), (4, _), (5, _)]) (.cons rfl (.cons rfl (.cons rfl .nil))) ?_
  refine x_seq (x_region ?_)
  refine tl_y rfl (y_move (v := .int _ _) rfl) ?_
  refine tl_e rfl (e_call' rfl (New_spec _) ?_)
  intro _ M2 L2 hM2 hv
  replace hm := hm.trans hM2
  rw [if_neg (by omega)] at hv
  obtain ⟨p, ⟨r2, hd2, rfl⟩, rfl⟩ := hv
  refine tl_y rfl (y_move (v := .tuple _) rfl) ?_
  refine tl_y rfl (y_extract rfl) ?_
  refine tl_y rfl (y_extract rfl) ?_
  refine tl_y rfl (y_assign (v := .pointer _) rfl) ?_
  refine tl_y rfl (y_assign (v := .int _ _) rfl) ?_
  refine tl_nil (.then_normal ?_)
  refine .sub (F' := [(1, _), (4, _), (5, _), (6, _), (7, _)]) (.cons rfl (.cons rfl (.cons rfl (.cons rfl (.cons rfl .nil))))) ?_
  refine x_seq (x_region ?_)
  refine tl_y rfl (y_move (v := .int _ _) rfl) ?_
  refine tl_e rfl (e_call' rfl (RNew_spec _ (by omega)) ?_)
  rintro _ M3 L3 hM3 ⟨q, ⟨r3, hr3, rfl⟩, rfl⟩
  replace hm := hm.trans hM3
  refine tl_y rfl (y_assign (v := .pointer _) rfl) ?_
  refine tl_nil (.then_normal ?_)
  refine x_seq (x_seq (x_region ?_))
  refine tl_y rfl (y_move (v := .pointer _) rfl) ?_
  refine tl_y rfl (y_eqNilPtr rfl rfl) ?_
  refine tl_y rfl (y_move (v := .bool _) rfl) ?_
  refine tl_set (s := 27) (u := .bool false) rfl (rfl) ?_
  refine tl_y rfl (y_move (v := .int _ _) rfl) ?_
  refine tl_y rfl (y_neq rfl rfl) ?_
  refine tl_y rfl (y_pickF rfl rfl) ?_
  refine tl_nil (.then_normal ?_)
  refine .sub (F' := [(1, _), (4, _), (6, _), (8, _), (30, _)]) (.cons rfl (.cons rfl (.cons rfl (.cons rfl (.cons rfl .nil))))) ?_
  refine x_false rfl (rfl) ?_
  refine x_skip (.then_normal ?_)
  refine x_seq (x_seq (x_region ?_))
  refine tl_y rfl (y_assign rfl) ?_
  refine tl_nil (.then_normal ?_)
  refine x_block ?_
  refine .to (dL p r2 (fresh (1 + (x.toNat : Int) % 20).toNat) (rL q r3 (fresh (1 + (x.toNat : Int) % 20).toNat) R)) inferInstance ?_
  refine x_loop (I := fun m' F D M1 L1 => ∃ (k : Nat) (S : DS) (rd : DRep) (rr : RRep), m' = 80 - k ∧ k ≤ 80 ∧ Le M M1 ∧ S.within k ∧ IsDisk M1 rd S ∧ IsRef M1 rr S ∧ D = [] ∧ L1 = dL p rd S (rL q rr S R) ∧ F = [(1, .slice A n c), (4, .bool false), (6, .pointer (some ⟨p, 0, none⟩)), (8, .pointer (some ⟨q, 0, none⟩)), (9, .int .i64 k)]) (80) (F0 := [(1, _), (4, _), (6, _), (8, _), (9, _)]) ?_ (.cons rfl (.cons rfl (.cons rfl (.cons rfl (.cons rfl .nil))))) ?_  -- slots [1, 4, 6, 8, 9], written [4, 9]
  · exact ⟨0, _, r2, r3, rfl, by omega, hm, within_fresh _, hd2.mono hM3, hr3, rfl, rfl, rfl⟩
  rintro m _ _ M4 L4 ⟨k, S, rd, rr, rfl, hk, hm4, hS, hd, hr, rfl, rfl, rfl⟩
  refine x_seq (x_seq (x_region ?_))
  refine tl_y rfl (y_move (v := .int _ _) rfl) ?_
  refine tl_y rfl (y_move (v := .slice _ _ _) rfl) ?_
  refine tl_y rfl (y_len rfl) ?_
  refine tl_y rfl (y_lss rfl rfl) ?_
  refine tl_y rfl (y_move (v := .bool _) rfl) ?_
  refine tl_cases (s := 35) rfl (fun hk2 => ?_) (fun hk2 => ?_)
  ·
    have hkn : k < n := by omega
    obtain ⟨g, o, rfl, hcn⟩ := (hrow.mono hm4).cellsN (by omega)
    obtain ⟨a, Ac, nc, cc, Af, nf, cf, hget, hcs, hfs⟩ := hacts.get k (by omega)
    have hce := fun L => hcn L (k * 7) 7 (by omega)
    rw [hget] at hce
    replace hcs := hcs.mono hm4
    replace hfs := hfs.mono hm4
    refine tl_y rfl (y_move (v := .int _ _) rfl) ?_
    refine tl_y rfl (y_lss rfl rfl) ?_
    refine tl_y rfl (y_pickT rfl rfl) ?_
    refine tl_nil (.then_normal ?_)
    refine .sub (F' := [(1, _), (4, _), (6, _), (8, _), (9, _), (38, _)]) (.cons rfl (.cons rfl (.cons rfl (.cons rfl (.cons rfl (.cons rfl .nil)))))) ?_
    refine x_cond rfl (fun hc3 => ?_) (fun hc3 => ?_)
    ·
      refine x_skip (.then_normal ?_)
      refine x_seq ?_
      refine x_block ?_
      refine x_seq (x_seq (x_region ?_))
      refine tl_y rfl (y_move (v := .slice _ _ _) rfl) ?_
      refine tl_y rfl (y_move (v := .int _ _) rfl) ?_
      refine tl_y rfl (y_indexAddr rfl rfl (by omega)) ?_
      refine tl_y rfl (y_fieldAddr rfl) ?_
      refine tl_y rfl (y_load rfl rfl (.at_ ((hce _).cell 4 rfl) (by omega))) ?_
      refine tl_y rfl (y_len rfl) ?_
      refine tl_y rfl (y_gtr rfl rfl) ?_
      refine tl_y rfl (y_move (v := .bool _) rfl) ?_
      refine tl_cases (s := 48) rfl (fun hk3 => ?_) (fun hk3 => ?_)
      ·
        refine tl_skip rfl ?_
        refine tl_skip rfl ?_
        refine tl_skip rfl ?_
        refine tl_skip rfl ?_
        refine tl_skip rfl ?_
        refine tl_skip rfl ?_
        refine tl_skip rfl ?_
        refine tl_skip rfl ?_
        refine tl_y rfl (y_pickT rfl rfl) ?_
        refine tl_nil (.then_normal ?_)
        refine .sub (F' := [(1, _), (4, _), (6, _), (8, _), (9, _), (57, _)]) (.cons rfl (.cons rfl (.cons rfl (.cons rfl (.cons rfl (.cons rfl .nil)))))) ?_
        refine x_true rfl rfl ?_
        refine x_seq (x_region ?_)
        refine tl_y rfl (y_assign rfl) ?_
        refine tl_nil (.then_normal ?_)
        refine x_ret (.then_ret (.block_ret (.then_ret (.loop_ret (.block_ret (.then_ret (ret1 rfl rfl hm4 rfl)))))))
      ·
        refine tl_y rfl (y_move (v := .slice _ _ _) rfl) ?_
        refine tl_y rfl (y_move (v := .int _ _) rfl) ?_
        refine tl_y rfl (y_indexAddr rfl rfl (by omega)) ?_
        refine tl_y rfl (y_fieldAddr rfl) ?_
        refine tl_y rfl (y_fieldAddr rfl) ?_
        refine tl_y rfl (y_load rfl rfl (.at_ ((hce _).cell 5 rfl) (by omega))) ?_
        refine tl_y rfl (y_len rfl) ?_
        refine tl_y rfl (y_gtr rfl rfl) ?_
        refine tl_y rfl (y_pickF rfl rfl) ?_
        refine tl_nil (.then_normal ?_)
        refine .sub (F' := [(1, _), (4, _), (6, _), (8, _), (9, _), (57, _)]) (.cons rfl (.cons rfl (.cons rfl (.cons rfl (.cons rfl (.cons rfl .nil)))))) ?_
        refine x_cond rfl (fun hc4 => ?_) (fun hc4 => ?_)
        ·
          refine x_seq (x_region ?_)
          refine tl_y rfl (y_assign rfl) ?_
          refine tl_nil (.then_normal ?_)
          refine x_ret (.then_ret (.block_ret (.then_ret (.loop_ret (.block_ret (.then_ret (ret1 rfl rfl hm4 rfl)))))))
        ·
          refine x_skip (.then_normal ?_)
          refine x_seq (x_seq ?_)
          refine x_draw 6 hmix rfl ?_
          refine to_p 0 rfl (by kernel_rfl) rfl (y_move (v := .pointer _) rfl) ?_
          refine to_p 1 rfl (by kernel_rfl) rfl (y_move (v := .pointer _) rfl) ?_
          refine to_p 2 rfl (by kernel_rfl) rfl (y_move (v := .slice _ _ _) rfl) ?_
          refine to_p 3 rfl (by kernel_rfl) rfl (y_move (v := .int _ _) rfl) ?_
          refine to_p 4 rfl (by kernel_rfl) rfl (y_indexAddr rfl rfl (by omega)) ?_
          refine to_y 5 rfl (by kernel_rfl) rfl (y_loadAgg rfl rfl (.at_ (hce _) (by omega))) ?_
          refine to_t 6 rfl (by kernel_rfl) (by kernel_rfl) rfl (e_call' rfl (do_spec hd hr hS (by omega) a hcs hfs (by omega)) ?_)
          rintro _ M5 L5 hM5 ⟨rfl, rd5, rr5, hd5, hr5, rfl⟩
          refine .again 18 (by kernel_rfl) ?_
          refine to_p 7 rfl (by kernel_rfl) rfl (y_not rfl) ?_
          refine to_p 8 rfl (by kernel_rfl) rfl (y_move (v := .bool _) rfl) ?_
          refine to_set (s := 66) (u := .bool false) rfl (rfl) ?_
          refine to_p 9 rfl (by kernel_rfl) rfl (y_move (v := .pointer _) rfl) ?_
          refine to_p 11 rfl (by kernel_rfl) rfl (y_move (v := .pointer _) rfl) ?_
          refine to_p 12 rfl (by kernel_rfl) rfl (y_nilCheck rfl) ?_
          refine to_p 13 rfl (by kernel_rfl) rfl (y_fieldAddr rfl) ?_
          refine to_y 14 rfl (by kernel_rfl) rfl (y_load rfl rfl (.own inferInstance inferInstance)) ?_
          refine to_e 10 rfl (by kernel_rfl) rfl (e_call' rfl (Sure_spec hd5) ?_)
          rintro _ M6 L6 hM6 ⟨rfl, A6, n6, c6, vs6, rfl, hr6, hb6⟩
          refine ⟨⟨(by first | exact Le.refl _ | assumption), Keeps.mem⟩, ?_⟩
          refine to_e 15 rfl (by kernel_rfl) rfl (e_call' rfl (all_spec hr6 (hr5.s.in_ inferInstance (by omega)) hb6 (hr5.sure.mono hM6)) ?_)
          rintro _ M7 L7 hM7 ⟨rfl, rfl, rfl⟩
          refine ⟨⟨(by first | exact Le.refl _ | assumption), Keeps.mem⟩, ?_⟩
          refine to_p 16 rfl (by kernel_rfl) rfl (y_not rfl) ?_
          refine to_p 17 rfl (by kernel_rfl) rfl (y_pickF rfl rfl) ?_
          refine to_nil (by kernel_rfl) (.then_normal ?_)
          refine .sub (F' := [(1, _), (4, _), (6, _), (8, _), (9, _), (75, _)]) (.cons rfl (.cons rfl (.cons rfl (.cons rfl (.cons rfl (.cons rfl .nil)))))) ?_
          refine x_false rfl (by simp) ?_
          refine x_skip (.then_normal ?_)
          refine x_seq (x_region ?_)
          refine tl_y rfl (y_move (v := .pointer _) rfl) ?_
          refine tl_e rfl (e_call' rfl (Count_spec (hd5.mono hM6)) ?_)
          rintro _ M8 L8 hM8 ⟨rfl, rfl, rfl⟩
          refine tl_y rfl (y_move (v := .tuple _) rfl) ?_
          refine tl_y rfl (y_extract rfl) ?_
          refine tl_y rfl (y_extract rfl) ?_
          refine tl_y rfl (y_assign (v := .int _ _) rfl) ?_
          refine tl_y rfl (y_assign (v := .int _ _) rfl) ?_
          refine tl_nil (.then_normal ?_)
          refine .sub (F' := [(1, _), (4, _), (6, _), (8, _), (9, _), (10, _), (11, _)]) (.cons rfl (.cons rfl (.cons rfl (.cons rfl (.cons rfl (.cons rfl (.cons rfl .nil))))))) ?_
          refine x_seq (x_region ?_)
          refine tl_y rfl (y_move (v := .int _ _) rfl) ?_
          refine tl_y rfl (y_move (v := .pointer _) rfl) ?_
          refine tl_y rfl (y_nilCheck rfl) ?_
          refine tl_y rfl (y_fieldAddr rfl) ?_
          refine tl_y rfl (y_load rfl rfl (.own inferInstance inferInstance)) ?_
          refine tl_y rfl (y_neq rfl rfl) ?_
          refine tl_y rfl (y_move (v := .bool _) rfl) ?_
          refine tl_set (s := 87) (u := .bool false) rfl (by congr 1; rw [decide_eq_false]; simp) ?_
          refine tl_y rfl (y_move (v := .int _ _) rfl) ?_
          refine tl_y rfl (y_move (v := .pointer _) rfl) ?_
          refine tl_y rfl (y_nilCheck rfl) ?_
          refine tl_y rfl (y_fieldAddr rfl) ?_
          refine tl_y rfl (y_load rfl rfl (.own inferInstance inferInstance)) ?_
          refine tl_y rfl (y_len rfl) ?_
          refine tl_y rfl (y_neq rfl rfl) ?_
          refine tl_y rfl (y_pickF rfl rfl) ?_
          refine tl_nil (.then_normal ?_)
          refine .sub (F' := [(1, _), (4, _), (6, _), (8, _), (9, _), (95, _)]) (.cons rfl (.cons rfl (.cons rfl (.cons rfl (.cons rfl (.cons rfl .nil)))))) ?_
          refine x_false rfl (by rw [decide_eq_false]; have := hr5.wn; omega) ?_
          refine x_skip (.block_normal (.then_normal ?_))
          refine x_region ?_
          refine tl_y rfl (y_move (v := .int _ _) rfl) ?_
          refine tl_y rfl (y_addI rfl rfl (by omega)) ?_
          refine tl_y rfl (y_assign (v := .int _ _) rfl) ?_
          refine tl_nil (.loop_next (m' := 80 - (k + 1)) (by omega) (F' := [(1, _), (4, _), (6, _), (8, _), (9, _)]) (.cons rfl (.cons rfl (.cons rfl (.cons rfl (.cons rfl .nil))))) ?_)
          exact ⟨k + 1, stepD a S, rd5, rr5, rfl, by omega, hm4.trans (hM5.trans hM6), within_step hS a, hd5.mono hM6, hr5.mono hM6, rfl, rfl, rfl⟩
    ·
      refine x_exit (.then_exit (.loop_exit (.block_exit (.then_normal ?_))))
      refine .sub (F' := []) .nil ?_
      refine x_seq (x_region ?_)
      refine tl_y rfl (y_assign rfl) ?_
      refine tl_nil (.then_normal ?_)
      refine x_ret (ret1 rfl rfl hm4 rfl)
  ·
    refine tl_skip rfl ?_
    refine tl_skip rfl ?_
    refine tl_y rfl (y_pickF rfl rfl) ?_
    refine tl_nil (.then_normal ?_)
    refine .sub (F' := [(1, _), (4, _), (6, _), (8, _), (9, _), (38, _)]) (.cons rfl (.cons rfl (.cons rfl (.cons rfl (.cons rfl (.cons rfl .nil)))))) ?_
    refine x_false rfl rfl ?_
    refine x_exit (.then_exit (.loop_exit (.block_exit (.then_normal ?_))))
    refine .sub (F' := []) .nil ?_
    refine x_seq (x_region ?_)
    refine tl_y rfl (y_assign rfl) ?_
    refine tl_nil (.then_normal ?_)
    refine x_ret (ret1 rfl rfl hm4 rfl)
end
end Go.Proofs.Ytlednbmmchalkaa
