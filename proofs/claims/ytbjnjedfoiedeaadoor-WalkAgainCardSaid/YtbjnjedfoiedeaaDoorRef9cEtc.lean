/-
Contracts of functions, each proved by a walk through its code.
-/
import Derived.Test.YtbjnjedfoiedeaaDoorLaw24cEtc
import Derived.ChangeSame
import Derived.Test.YtbjnjedfoiedeaaDoorRef8bEtc
import Derived.Test.YtbjnjedfoiedeaaDoorLaw24aEtc
set_option linter.unusedVariables false
set_option linter.unusedSimpArgs false
set_option linter.constructorNameAsVariable false
namespace Go.Proofs.YtbjnjedfoiedeaaDoor
open Go Go.Eng
section
variable {G : World} {M : Mem} {L : Own}
theorem okR_len {o : OtsV} {nl : Nat} {i : Int} {xl xl' : Nat} (h : okR o nl i xl) (hx : (xl' : Int) = o.n) : okR o nl i xl' := ⟨h.1, h.2.1, h.2.2.1, h.2.2.2.1, h.2.2.2.2.1, hx⟩
theorem upC_step {o : OtsV} {name : List UInt8} {q i f : Nat} {x : List UInt8} (hsha : ∀ t, (sha t).length = 32) (hok : okR o name.length (i : Int) x.length) {k : Nat} (hk : f + k ≤ 255) : cStep o name q (i : Int) ((f + k : Nat) : Int) (upC o name q i f x k) = upC o name q i f x (k + 1) := by
  have h1 := upC_length (okR_facts hok).1 hsha name q i f hok.2.2.2.2.2 k
  rw [cStep, if_pos ⟨okR_len hok h1, by omega, by omega⟩, upC, Int.toNat_natCast, Int.toNat_natCast]
theorem RUp_spec9 (hsha : ∀ t, (sha t).length = 32) (o : OtsV) {NA XA : Option Addr} {nl nc xl xc : Nat} {name x : List UInt8} (hname : Bytes M NA nl nc name) (hx : Bytes M XA xl xc x) (q : UInt32) (i f t : Int) :
    Con Tryd.prog 85 #[.agg (List.toArray o.cells), .slice NA nl nc, .int .u32 (q.toNat : Int), .int .i64 i, .int .i64 f, .int .i64 t, .slice XA xl xc] G M L (fun v M' L' => L = L' ∧ ∃ A' m' c', v = .slice A' m' c' ∧ Bytes M' A' m' c' (cUp o name q.toNat i f t x)) noPanic := by
  have hnls := hname.size
  have hxls := hx.size
  refine enter (args := [_, _, _, _, _, _, _]) (fn := Tryd.f85) ⟨Tryd.func85, rfl, by kernel_rfl, by kernel_rfl⟩ 67 rfl ?_
  refine x_seq (x_region ?_)
  refine tl_e rfl (e_box rfl (fun b1 => ?_))
  refine tl_y rfl (y_assign rfl) ?_
  refine tl_nil (.then_normal ?_)
  refine x_seq (x_region ?_)
  refine tl_y rfl (y_assign rfl) ?_
  refine tl_nil (.then_normal ?_)
  refine x_seq (x_seq (x_region ?_))
  refine tl_y rfl (y_assign rfl) ?_
  refine tl_nil (.then_normal ?_)
  refine x_block ?_
  refine x_loop (I := fun m' F D M2 L2 => ∃ k : Nat, m' = 10 - k ∧ k ≤ 10 ∧ (k = 0 ∨ (k : Int) ≤ o.w) ∧ D = [] ∧ M = M2 ∧ (b1, .cells (List.toArray o.cells) 62 (0, 0)) :: L = L2 ∧ F = [(1, .slice NA nl nc), (2, .int .u32 (q.toNat : Int)), (3, .int .i64 i), (4, .int .i64 f), (5, .int .i64 t), (6, .slice XA xl xc), (7, .pointer (some ⟨b1, 0, none⟩)), (15, .int .i64 (pw2 k : Nat)), (16, .int .i64 k)]) (10) (F0 := [(1, _), (2, _), (3, _), (4, _), (5, _), (6, _), (7, _), (15, _), (16, _)]) ?_ (.cons rfl (.cons rfl (.cons rfl (.cons rfl (.cons rfl (.cons rfl (.cons rfl (.cons rfl (.cons rfl .nil))))))))) ?_  -- slots [1, 2, 3, 4, 5, 6, 7, 15, 16], written [15, 16]
  · exact ⟨0, rfl, by omega, .inl rfl, rfl, rfl, rfl, rfl⟩
  rintro m _ _ _ _ ⟨k, rfl, hk, hkw, rfl, rfl, rfl, rfl⟩
  refine x_seq ?_
  refine x_join (I := fun F D M2 L2 => ∃ b : Bool, (b = true ↔ ((k : Int) < o.w ∧ k < 10)) ∧ D = [] ∧ M = M2 ∧ (b1, .cells (List.toArray o.cells) 62 (0, 0)) :: L = L2 ∧ F = [(1, .slice NA nl nc), (2, .int .u32 (q.toNat : Int)), (3, .int .i64 i), (4, .int .i64 f), (5, .int .i64 t), (6, .slice XA xl xc), (7, .pointer (some ⟨b1, 0, none⟩)), (15, .int .i64 (pw2 k : Nat)), (16, .int .i64 k), (25, .bool b)]) ?_ (fun Jq3 => ?_)
  ·
    rintro _ _ _ _ ⟨b, hb, rfl, rfl, rfl, rfl⟩  -- slots [1, 2, 3, 4, 5, 6, 7, 15, 16, 25]
    refine x_condb rfl (fun hc1 => ?_) (fun hc1 => ?_)
    ·
      have hlt := hb.1 hc1
      have hpk : pw2 k ≤ pw2 10 := pw2_le hk
      have hp10 : pw2 10 = 1024 := rfl
      refine x_skip (.then_normal ?_)
      refine x_seq ?_
      refine x_block ?_
      refine x_region ?_
      refine tl_y rfl (y_move (v := .int _ _) rfl) ?_
      refine tl_y rfl (y_mulI rfl rfl (by omega)) ?_
      rw [pw2_succ]
      refine tl_y rfl (y_assign (v := .int _ _) rfl) ?_
      refine tl_nil (.block_normal (.then_normal ?_))
      refine x_region ?_
      refine tl_y rfl (y_move (v := .int _ _) rfl) ?_
      refine tl_y rfl (y_addI rfl rfl (by omega)) ?_
      refine tl_y rfl (y_assign (v := .int _ _) rfl) ?_
      refine tl_nil (.loop_next (m' := 10 - (k + 1)) (by omega) (F' := [(1, _), (2, _), (3, _), (4, _), (5, _), (6, _), (7, _), (15, _), (16, _)]) (.cons rfl (.cons rfl (.cons rfl (.cons rfl (.cons rfl (.cons rfl (.cons rfl (.cons rfl (.cons rfl .nil))))))))) ?_)
      exact ⟨k + 1, rfl, by omega, .inr (by omega), rfl, rfl, rfl, rfl⟩
    ·
      have hnot : ¬ ((k : Int) < o.w ∧ k < 10) := fun h => by rw [hb.2 h] at hc1; cases hc1
      have hpk : pw2 k ≤ pw2 10 := pw2_le hk
      have hp10 : pw2 10 = 1024 := rfl
      have hwk : okR o nl i xl → o.w.toNat = k ∧ 0 ≤ o.w ∧ o.w ≤ 8 := fun h => by
        obtain ⟨hoc, hop, w, hw, hww⟩ := okR_facts h
        rcases hw with rfl | rfl | rfl | rfl <;> omega
      refine x_exit (.then_exit (.loop_exit (.block_exit (.then_normal ?_))))
      refine x_seq ?_
      refine x_join (I := fun F D M2 L2 => ∃ b : Bool, (b = true ↔ ¬ (okR o nl i xl ∧ 0 ≤ f ∧ f ≤ t ∧ t ≤ (pw2 k : Nat) - 1)) ∧ D = [] ∧ M = M2 ∧ (b1, .cells (List.toArray o.cells) 62 (0, 0)) :: L = L2 ∧ F = [(1, .slice NA nl nc), (2, .int .u32 (q.toNat : Int)), (3, .int .i64 i), (4, .int .i64 f), (5, .int .i64 t), (6, .slice XA xl xc), (7, .pointer (some ⟨b1, 0, none⟩)), (50, .bool b)]) ?_ (fun Jq6 => ?_)
      ·
        rintro _ _ _ _ ⟨b, hb2, rfl, rfl, rfl, rfl⟩  -- slots [1, 2, 3, 4, 5, 6, 7, 50]
        refine x_condb rfl (fun hc2 => ?_) (fun hc2 => ?_)
        ·
          refine x_seq (x_region ?_)
          refine tl_y rfl (y_assign rfl) ?_
          refine tl_nil (.then_normal ?_)
          refine .sub (F' := [(14, _)]) (.cons rfl .nil) ?_
          refine x_ret (.then_ret (.dropTo L inferInstance (ret1 rfl rfl (Le.refl _) ⟨rfl, _, _, _, rfl, by
            rw [cUp, hnls, hxls, if_neg (fun h => hb2.1 hc2 ⟨h.1, h.2.1, h.2.2.1, by have := h.2.2.2; rw [(hwk h.1).1] at this; exact this⟩)]
            exact Row.nil _ _⟩)))
        ·
          have hok' : okR o nl i xl ∧ 0 ≤ f ∧ f ≤ t ∧ t ≤ (pw2 k : Nat) - 1 := Classical.not_not.1 fun h => by rw [hb2.2 h] at hc2; cases hc2
          obtain ⟨hok, hf0, hft, htm⟩ := hok'
          obtain ⟨hoc, hop, w, hw, hww⟩ := okR_facts hok
          have hob : nl = 16 ∧ 0 ≤ i ∧ i < o.p ∧ (xl : Int) = o.n := hok.2.2
          have hon : o.n = 24 ∨ o.n = 32 := hoc.2
          have hkk := hwk hok
          have hpw := pw2_w hw
          obtain rfl : k = w := by omega
          obtain ⟨i', rfl⟩ : ∃ i' : Nat, i = i' := ⟨i.toNat, by omega⟩
          obtain ⟨f', rfl⟩ : ∃ f' : Nat, f = f' := ⟨f.toNat, by omega⟩
          obtain ⟨t', rfl⟩ : ∃ t' : Nat, t = t' := ⟨t.toNat, by omega⟩
          refine x_skip (.then_normal ?_)
          refine x_seq (x_seq (x_region ?_))
          refine tl_y rfl (y_move (v := .int _ _) rfl) ?_
          refine tl_y rfl (y_assign (v := .int _ _) rfl) ?_
          refine tl_nil (.then_normal ?_)
          refine x_block ?_
          refine x_loop (I := fun m' F D M4 L4 => ∃ (k : Nat) (A4 : Option Addr) (n4 c4 : Nat), m' = t' - f' - k ∧ k ≤ t' - f' ∧ Le M M4 ∧ Bytes M4 A4 n4 c4 (upC o name q.toNat i' f' x k) ∧ D = [] ∧ (b1, .cells (List.toArray o.cells) 62 (0, 0)) :: L = L4 ∧ F = [(1, .slice NA nl nc), (2, .int .u32 (q.toNat : Int)), (3, .int .i64 i'), (5, .int .i64 t'), (6, .slice A4 n4 c4), (7, .pointer (some ⟨b1, 0, none⟩)), (17, .int .i64 ((f' + k : Nat) : Int))]) (t' - f') (F0 := [(1, _), (2, _), (3, _), (5, _), (6, _), (7, _), (17, _)]) ?_ (.cons rfl (.cons rfl (.cons rfl (.cons rfl (.cons rfl (.cons rfl (.cons rfl .nil))))))) ?_  -- slots [1, 2, 3, 5, 6, 7, 17], written [6, 17]
          · exact ⟨0, XA, xl, xc, rfl, by omega, Le.refl _, hx, rfl, rfl, rfl⟩
          rintro m _ _ M4 _ ⟨j, A4, n4, c4, rfl, hj, hM4, hA4, rfl, rfl, rfl⟩
          refine x_seq (x_seq (x_region ?_))
          refine tl_y rfl (y_move (v := .int _ _) rfl) ?_
          refine tl_y rfl (y_move (v := .int _ _) rfl) ?_
          refine tl_y rfl (y_lss rfl rfl) ?_
          refine tl_nil (.then_normal ?_)
          refine x_cond rfl (fun hc3 => ?_) (fun hc3 => ?_)
          ·
            refine x_skip (.then_normal ?_)
            refine x_seq ?_
            refine x_block ?_
            refine x_region ?_
            refine tl_y rfl (y_loadAgg rfl rfl (.own inferInstance inferInstance)) ?_
            refine tl_y rfl (y_move (v := .slice _ _ _) rfl) ?_
            refine tl_y rfl (y_move (v := .int _ _) rfl) ?_
            refine tl_y rfl (y_move (v := .int _ _) rfl) ?_
            refine tl_y rfl (y_move (v := .int _ _) rfl) ?_
            refine tl_y rfl (y_move (v := .slice _ _ _) rfl) ?_
            refine tl_e rfl (e_call' rfl (RStep_spec9 o (hname.mono hM4) hA4 q (i' : Int) ((f' + j : Nat) : Int)) ?_)
            rintro _ M5 _ hM5 ⟨rfl, A5, m5, c5, rfl, hA5⟩
            rw [upC_step hsha (by rw [hnls, hxls]; exact hok) (by omega)] at hA5
            refine tl_y rfl (y_assign (v := .slice _ _ _) rfl) ?_
            refine tl_nil (.block_normal (.then_normal ?_))
            refine .sub (F' := [(1, _), (2, _), (3, _), (5, _), (6, _), (7, _), (17, _)]) (.cons rfl (.cons rfl (.cons rfl (.cons rfl (.cons rfl (.cons rfl (.cons rfl .nil))))))) ?_
            refine x_region ?_
            refine tl_y rfl (y_move (v := .int _ _) rfl) ?_
            refine tl_y rfl (y_addI rfl rfl (by omega)) ?_
            rw [show ((f' + j : Nat) : Int) + 1 = ((f' + (j + 1) : Nat) : Int) by omega]
            refine tl_y rfl (y_assign (v := .int _ _) rfl) ?_
            refine tl_nil (.loop_next (m' := t' - f' - (j + 1)) (by omega) (F' := [(1, _), (2, _), (3, _), (5, _), (6, _), (7, _), (17, _)]) (.cons rfl (.cons rfl (.cons rfl (.cons rfl (.cons rfl (.cons rfl (.cons rfl .nil))))))) ?_)
            exact ⟨j + 1, A5, m5, c5, rfl, by omega, hM4.trans hM5, hA5, rfl, rfl, rfl⟩
          ·
            obtain rfl : j = t' - f' := by omega
            have hA4l := hA4.size
            have hul := upC_length hoc hsha name q.toNat i' f' (by rw [hxls]; exact hob.2.2.2) (t' - f')
            refine x_exit (.then_exit (.loop_exit (.block_exit (.then_normal ?_))))
            refine .sub (F' := [(6, _)]) (.cons rfl .nil) ?_
            refine x_seq (x_region ?_)
            refine tl_e rfl (e_buildSlice0 (fun b2 => ?_))
            refine tl_y rfl (y_move (v := .slice _ _ _) rfl) ?_
            refine tl_e rfl (e_append1 (by decide) rfl rfl OwnRow.made00 (.row hA4) (all_one_bv _) (by omega) (by omega) (fun A6 c6 E6 hE6 => ?_))
            rw [Nat.zero_add, List.nil_append] at hE6; rw [Nat.zero_add]
            refine tl_y rfl (y_assign (v := .slice _ _ _) rfl) ?_
            refine tl_nil (.then_normal ?_)
            refine .sub (F' := [(14, _)]) (.cons rfl .nil) ?_
            refine x_ret (.pubRow hE6 fun M7 hM7 hr => .dropTo L inferInstance (ret1 rfl rfl (hM4.trans hM7) ⟨rfl, _, _, _, rfl, ?_⟩))
            rw [cUp, hnls, hxls, if_pos ⟨hok, hf0, hft, by rw [hkk.1]; exact htm⟩, Int.toNat_natCast, Int.toNat_natCast, show ((t' : Int) - (f' : Int)).toNat = t' - f' by omega]
            exact hr
      ·
        refine x_region ?_
        refine tl_y rfl (y_loadAgg rfl rfl (.own inferInstance inferInstance)) ?_
        refine tl_y rfl (y_move (v := .slice _ _ _) rfl) ?_
        refine tl_y rfl (y_move (v := .int _ _) rfl) ?_
        refine tl_y rfl (y_move (v := .slice _ _ _) rfl) ?_
        refine tl_e rfl (e_call' rfl (RRight_spec o i) ?_)
        rintro _ _ _ _ ⟨rfl, rfl, rfl⟩
        refine tl_y rfl (y_notd rfl) ?_
        refine tl_y rfl (y_move (v := .bool _) rfl) ?_
        refine tl_cases (s := 36) rfl (fun hk1 => ?_) (fun hk1 => ?_)
        ·
          refine tl_skip rfl ?_
          refine tl_skip rfl ?_
          refine tl_y rfl (y_pickT rfl rfl) ?_
          refine tl_y rfl (y_move (v := .bool _) rfl) ?_
          refine tl_skip rfl ?_
          refine tl_skip rfl ?_
          refine tl_skip rfl ?_
          refine tl_y rfl (y_pickT rfl rfl) ?_
          refine tl_y rfl (y_move (v := .bool _) rfl) ?_
          refine tl_skip rfl ?_
          refine tl_skip rfl ?_
          refine tl_skip rfl ?_
          refine tl_skip rfl ?_
          refine tl_y rfl (y_pickT rfl rfl) ?_
          refine tl_nil (.then_normal (.sub (F' := [(1, _), (2, _), (3, _), (4, _), (5, _), (6, _), (7, _), (50, _)]) (.cons rfl (.cons rfl (.cons rfl (.cons rfl (.cons rfl (.cons rfl (.cons rfl (.cons rfl .nil)))))))) (Jq6 _ _ _ _ ?_)))
          exact ⟨_, by
            constructor
            · intro ht
              first | exact fun h => hk1 h.1 | (simp at ht; exact fun h => by omega) | exact fun h => by omega
            · intro hno
              first | rfl | (simp; exact Int.not_le.1 fun h => hno ⟨Classical.not_not.1 hk1, by omega, by omega, by omega⟩) | (simp; omega), rfl, rfl, rfl, rfl⟩
        ·
          refine tl_y rfl (y_move (v := .int _ _) rfl) ?_
          refine tl_y rfl (y_lss rfl rfl) ?_
          refine tl_y rfl (y_pickF rfl rfl) ?_
          refine tl_y rfl (y_move (v := .bool _) rfl) ?_
          refine tl_cases (s := 40) rfl (fun hk2 => ?_) (fun hk2 => ?_)
          ·
            refine tl_skip rfl ?_
            refine tl_skip rfl ?_
            refine tl_skip rfl ?_
            refine tl_y rfl (y_pickT rfl rfl) ?_
            refine tl_y rfl (y_move (v := .bool _) rfl) ?_
            refine tl_skip rfl ?_
            refine tl_skip rfl ?_
            refine tl_skip rfl ?_
            refine tl_skip rfl ?_
            refine tl_y rfl (y_pickT rfl rfl) ?_
            refine tl_nil (.then_normal (.sub (F' := [(1, _), (2, _), (3, _), (4, _), (5, _), (6, _), (7, _), (50, _)]) (.cons rfl (.cons rfl (.cons rfl (.cons rfl (.cons rfl (.cons rfl (.cons rfl (.cons rfl .nil)))))))) (Jq6 _ _ _ _ ?_)))
            exact ⟨_, by
              constructor
              · intro ht
                first | exact fun h => hk1 h.1 | (simp at ht; exact fun h => by omega) | exact fun h => by omega
              · intro hno
                first | rfl | (simp; exact Int.not_le.1 fun h => hno ⟨Classical.not_not.1 hk1, by omega, by omega, by omega⟩) | (simp; omega), rfl, rfl, rfl, rfl⟩
          ·
            refine tl_y rfl (y_move (v := .int _ _) rfl) ?_
            refine tl_y rfl (y_move (v := .int _ _) rfl) ?_
            refine tl_y rfl (y_gtr rfl rfl) ?_
            refine tl_y rfl (y_pickF rfl rfl) ?_
            refine tl_y rfl (y_move (v := .bool _) rfl) ?_
            refine tl_cases (s := 45) rfl (fun hk3 => ?_) (fun hk3 => ?_)
            ·
              refine tl_skip rfl ?_
              refine tl_skip rfl ?_
              refine tl_skip rfl ?_
              refine tl_skip rfl ?_
              refine tl_y rfl (y_pickT rfl rfl) ?_
              refine tl_nil (.then_normal (.sub (F' := [(1, _), (2, _), (3, _), (4, _), (5, _), (6, _), (7, _), (50, _)]) (.cons rfl (.cons rfl (.cons rfl (.cons rfl (.cons rfl (.cons rfl (.cons rfl (.cons rfl .nil)))))))) (Jq6 _ _ _ _ ?_)))
              exact ⟨_, by
                constructor
                · intro ht
                  first | exact fun h => hk1 h.1 | (simp at ht; exact fun h => by omega) | exact fun h => by omega
                · intro hno
                  first | rfl | (simp; exact Int.not_le.1 fun h => hno ⟨Classical.not_not.1 hk1, by omega, by omega, by omega⟩) | (simp; omega), rfl, rfl, rfl, rfl⟩
            ·
              refine tl_y rfl (y_move (v := .int _ _) rfl) ?_
              refine tl_y rfl (y_move (v := .int _ _) rfl) ?_
              refine tl_y rfl (y_subI rfl rfl (by omega)) ?_
              refine tl_y rfl (y_gtr rfl rfl) ?_
              refine tl_y rfl (y_pickF rfl rfl) ?_
              refine tl_nil (.then_normal (.sub (F' := [(1, _), (2, _), (3, _), (4, _), (5, _), (6, _), (7, _), (50, _)]) (.cons rfl (.cons rfl (.cons rfl (.cons rfl (.cons rfl (.cons rfl (.cons rfl (.cons rfl .nil)))))))) (Jq6 _ _ _ _ ?_)))
              exact ⟨_, by
                constructor
                · intro ht
                  first | exact fun h => hk1 h.1 | (simp at ht; exact fun h => by omega) | exact fun h => by omega
                · intro hno
                  first | rfl | (simp; exact Int.not_le.1 fun h => hno ⟨Classical.not_not.1 hk1, by omega, by omega, by omega⟩) | (simp; omega), rfl, rfl, rfl, rfl⟩
  ·
    refine x_region ?_
    refine tl_y rfl (y_move (v := .int _ _) rfl) ?_
    refine tl_y rfl (y_fieldAddr rfl) ?_
    refine tl_y rfl (y_load rfl rfl (.own inferInstance inferInstance)) ?_
    refine tl_y rfl (y_lss rfl rfl) ?_
    refine tl_y rfl (y_move (v := .bool _) rfl) ?_
    refine tl_cases (s := 22) rfl (fun hk4 => ?_) (fun hk4 => ?_)
    ·
      refine tl_y rfl (y_move (v := .int _ _) rfl) ?_
      refine tl_y rfl (y_lss rfl rfl) ?_
      refine tl_y rfl (y_pickT rfl rfl) ?_
      refine tl_nil (.then_normal (.sub (F' := [(1, _), (2, _), (3, _), (4, _), (5, _), (6, _), (7, _), (15, _), (16, _), (25, _)]) (.cons rfl (.cons rfl (.cons rfl (.cons rfl (.cons rfl (.cons rfl (.cons rfl (.cons rfl (.cons rfl (.cons rfl .nil)))))))))) (Jq3 _ _ _ _ ?_)))
      exact ⟨_, by first | (simp; done) | (simp; omega) | omega, rfl, rfl, rfl, rfl⟩
    ·
      refine tl_skip rfl ?_
      refine tl_skip rfl ?_
      refine tl_y rfl (y_pickF rfl rfl) ?_
      refine tl_nil (.then_normal (.sub (F' := [(1, _), (2, _), (3, _), (4, _), (5, _), (6, _), (7, _), (15, _), (16, _), (25, _)]) (.cons rfl (.cons rfl (.cons rfl (.cons rfl (.cons rfl (.cons rfl (.cons rfl (.cons rfl (.cons rfl (.cons rfl .nil)))))))))) (Jq3 _ _ _ _ ?_)))
      exact ⟨_, by first | (simp; done) | (simp; omega) | omega, rfl, rfl, rfl, rfl⟩
end
end Go.Proofs.YtbjnjedfoiedeaaDoor
set_option linter.unusedVariables false
set_option linter.unusedSimpArgs false
set_option linter.constructorNameAsVariable false
namespace Go.Proofs.YtbjnjedfoiedeaaDoor
open Go Go.Eng
theorem f9 : ∃ o : OtsV, otsV 7 = o ∧ otsE 7 = 0 ∧ o.n = 24 ∧ o.kind = 0 ∧ o.w = 4 ∧ o.p = 51 ∧ otsE o.code = 0 ∧ otsV o.code = o := by
  refine ⟨otsV 7, rfl, ?_⟩
  decide +kernel
structure ChG (M : Mem) : Prop where
  sha : ShaG M
  kec : KecG M
  set : SetG M
theorem ChG.mono {M M' : Mem} (h : ChG M) (hle : Le M M') : ChG M' := ⟨h.sha.mono hle, h.kec.mono hle, h.set.mono hle⟩
section
variable {G : World} {M : Mem} {L : Own}
end
end Go.Proofs.YtbjnjedfoiedeaaDoor
set_option linter.unusedVariables false
set_option maxRecDepth 100000
namespace Go.Proofs.YtbjnjedfoiedeaaDoor
open Go Go.Eng Go.ChangeShapes Go.WideShapes Go.ChangeAt Go.RowKit
section
variable {H : Type} {enc : TypeId × Value → H} {W : World}
theorem kecG_of {laid : List (String × DataW Unit)} (h : laidMet Tryd.prog laid W) (h1 : ("tearoff/keccak.rc", Rows.laid_tearoff_keccak_rc) ∈ laid) (h2 : ("tearoff/keccak.turns", Rows.laid_tearoff_keccak_turns) ∈ laid) : KecG (memOf W) := by
  refine ⟨?_, ?_⟩
  · obtain ⟨T, fr, hc⟩ := laid_ints h (kRc.map fun x => (x.toNat : Int)) h1 (show Tryd.prog.globalNamed "tearoff/keccak.rc" = some 9 by kernel_rfl) (show (Tryd.prog.globals[9]?).map (·.type) = some 166 by kernel_rfl) ti166 ti74 rfl
    refine ⟨_, T, fr, hc, fun j hj => ?_⟩
    rw [List.getElem?_toArray, List.map_map]
    exact get_u64' kRc j hj
  · obtain ⟨T, fr, hc⟩ := laid_ints h (kTurns.map fun (x : Nat) => (x : Int)) h2 (show Tryd.prog.globalNamed "tearoff/keccak.turns" = some 8 by kernel_rfl) (show (Tryd.prog.globals[8]?).map (·.type) = some 179 by kernel_rfl) ti179 ti3 rfl
    refine ⟨_, T, fr, hc, fun j hj => ?_⟩
    rw [List.getElem?_toArray, List.map_map, List.getElem?_map, List.getElem?_eq_getElem (show j < kTurns.length from hj), List.getD_eq_getElem?_getD, List.getElem?_eq_getElem (show j < kTurns.length from hj)]
    rfl
theorem trod_pair {t it : TypeId} {z z' : Value} {b b' fuel : Nat} {f0 f1 : Field} {cs : List Value} {a c : Int} {p : List MemPlace} {sp : Nat → Bool} {held : Bool} {enc : TypeId × Value → Unit} [ti : TI Tryd.prog t (.struct #[f0, f1]) z 2 b] [te : TI Tryd.prog it (.int .i64) z' 1 b']
    (e0 : f0.type = it ∧ f0.offset = 0) (e1 : f1.type = it ∧ f1.offset = 1) (h : DataW.trod enc Tryd.prog W 0 sp held fuel t cs = some (.agg [.lit (.int .i64 a), .lit (.int .i64 c)], p)) : cs = [.int .i64 a, .int .i64 c] := by
  obtain ⟨y0, y1, n, hx, hl, h0, h1⟩ := trod_struct2 ti.und h
  rw [ti.cellsOf] at hl
  rw [e0.1, e0.2, te.cellsOf] at h0
  rw [e1.1, e1.2, te.cellsOf] at h1
  obtain ⟨x, g1, g2, _⟩ := DataW.trod_int te.und h0
  obtain ⟨x', g1', g2', _⟩ := DataW.trod_int te.und h1
  simp only [Prod.mk.injEq, DataW.agg.injEq, List.cons.injEq, and_true] at hx
  match cs, hl with
  | [c0, c1], _ =>
    simp at g1 g1'
    rw [g2, g2'] at hx
    simp only [DataW.lit.injEq, Lit.int.injEq, true_and] at hx
    rw [g1, g1', hx.1.1, hx.1.2]
theorem setG_of {laid : List (String × DataW Unit)} (h : laidMet Tryd.prog laid W) (h1 : ("tearoff/sets.sums", Rows.laid_tearoff_sets_sums) ∈ laid) (h2 : ("tearoff/sets.widths", Rows.laid_tearoff_sets_widths) ∈ laid) : SetG (memOf W) := by
  refine ⟨?_, ?_⟩
  · obtain ⟨ps, hv, _⟩ := h
    obtain ⟨g', t', cs, fuel, p, e1, e2, e3, e4⟩ := laidVars_mem hv h1
    obtain rfl := Option.some.inj ((show Tryd.prog.globalNamed "tearoff/sets.sums" = some 4 by kernel_rfl).symm.trans e1)
    obtain rfl := Option.some.inj ((show (Tryd.prog.globals[4]?).map (·.type) = some 146 by kernel_rfl).symm.trans e2)
    obtain ⟨T, fr, hh⟩ := var_heap e1 e3
    obtain ⟨xs, m', hx', hx, hl, hn, hel⟩ := DataW.trod_array (ti146 : TI Tryd.prog 146 _ _ _ _).und e4
    rw [TI.cellsOf (ti146 : TI Tryd.prog 146 _ _ _ _)] at hl
    rw [TI.cellsOf (ti127 : TI Tryd.prog 127 _ _ _ _)] at hel
    unfold Rows.laid_tearoff_sets_sums at hx
    refine ⟨T, fr, ?_⟩
    rw [hh]
    obtain ⟨cl, rfl⟩ : ∃ cl : List Value, cs = cl.toArray := ⟨cs.toList, by simp⟩
    match xs, hn with
    | [x0, x1, x2, x3], _ =>
      simp only [Prod.mk.injEq, DataW.agg.injEq, List.map_cons, List.map_nil, List.cons.injEq, and_true] at hx
      have k0 := hel 0 (by omega)
      have k1 := hel 1 (by omega)
      have k2 := hel 2 (by omega)
      have k3 := hel 3 (by omega)
      match cl, hl with
      | [c0, c1, c2, c3, c4, c5, c6, c7], _ =>
        simp at k0 k1 k2 k3
        obtain ⟨q0, q0'⟩ := x0
        obtain ⟨q1, q1'⟩ := x1
        obtain ⟨q2, q2'⟩ := x2
        obtain ⟨q3, q3'⟩ := x3
        obtain ⟨⟨rfl, rfl, rfl, rfl⟩, _⟩ := hx
        have r0 := trod_pair (te := ti3) ⟨rfl, rfl⟩ ⟨rfl, rfl⟩ k0
        have r1 := trod_pair (te := ti3) ⟨rfl, rfl⟩ ⟨rfl, rfl⟩ k1
        have r2 := trod_pair (te := ti3) ⟨rfl, rfl⟩ ⟨rfl, rfl⟩ k2
        have r3 := trod_pair (te := ti3) ⟨rfl, rfl⟩ ⟨rfl, rfl⟩ k3
        simp only [List.cons.injEq, and_true] at r0 r1 r2 r3
        rw [r0.1, r0.2, r1.1, r1.2, r2.1, r2.2, r3.1, r3.2]
  · obtain ⟨T, fr, hc⟩ := laid_ints h [1, 2, 4, 8] h2 (show Tryd.prog.globalNamed "tearoff/sets.widths" = some 1 by kernel_rfl) (show (Tryd.prog.globals[1]?).map (·.type) = some 130 by kernel_rfl) ti130 ti3 rfl
    exact ⟨T, fr, hc⟩
theorem chG_of {laid : List (String × DataW Unit)} (e : laid = [("tearoff/keccak.rc", Rows.laid_tearoff_keccak_rc), ("tearoff/keccak.turns", Rows.laid_tearoff_keccak_turns), ("tearoff/sets.sums", Rows.laid_tearoff_sets_sums), ("tearoff/sets.widths", Rows.laid_tearoff_sets_widths), ("tearoff/sha2.k", Rows.laid_tearoff_sha2_k), ("tearoff/sha2.first", Rows.laid_tearoff_sha2_first)]) (h : laidMet Tryd.prog laid W) : ChG (memOf W) :=
  ⟨shaG_of h (by rw [e]; simp) (by rw [e]; simp), kecG_of h (by rw [e]; simp) (by rw [e]; simp), setG_of h (by rw [e]; simp) (by rw [e]; simp)⟩
theorem u32_of {n : Int} (h : (Lit.int .u32 n).wf = true) : ∃ c : UInt32, n = (c.toNat : Int) := by
  have hb : 0 ≤ n ∧ n ≤ 4294967295 := by simp [Lit.wf, IntKind.min, IntKind.max, IntKind.signed, IntKind.bits] at h; omega
  exact ⟨UInt32.ofNat n.toNat, by rw [UInt32.toNat_ofNat', Nat.mod_eq_of_lt (by omega)]; omega⟩
theorem bytes_arg' {v : Value} {r : Reach} {b : Nat} (k : Value.okWide Tryd.prog W r b 22 v) (h : Rd enc Tryd.prog W 22 v.cells.toList) : ∃ A n c g, v = .slice A n c ∧ Bytes (memOf W) A n c g := by
  obtain ⟨A, n, c, g, e0, h0⟩ := Rd.bytes (te := ti5) h
  exact ⟨A, n, c, g, one_of (ti := ti22) rfl k e0, h0⟩
theorem ots_arg {v : Value} {r : Reach} {b : Nat} (k : Value.okWide Tryd.prog W r b 62 v) (h : Rd enc Tryd.prog W 62 v.cells.toList) : ∃ o : OtsV, v = .agg (List.toArray o.cells) := by
  have ha := agg_of (d := .struct _) rfl k
  obtain ⟨hl, hf⟩ := h.struct
  have f0 := hf _ (List.mem_cons_self)
  have f1 := hf _ (List.mem_cons_of_mem _ List.mem_cons_self)
  have f2 := hf _ (List.mem_cons_of_mem _ (List.mem_cons_of_mem _ List.mem_cons_self))
  have f3 := hf _ (List.mem_cons_of_mem _ (List.mem_cons_of_mem _ (List.mem_cons_of_mem _ List.mem_cons_self)))
  have f4 := hf _ (List.mem_cons_of_mem _ (List.mem_cons_of_mem _ (List.mem_cons_of_mem _ (List.mem_cons_of_mem _ List.mem_cons_self))))
  have f5 := hf _ (List.mem_cons_of_mem _ (List.mem_cons_of_mem _ (List.mem_cons_of_mem _ (List.mem_cons_of_mem _ (List.mem_cons_of_mem _ List.mem_cons_self)))))
  rw [TI.cellsOf (ti28 : TI Tryd.prog 28 _ _ _ _)] at f0
  rw [TI.cellsOf (ti3 : TI Tryd.prog 3 _ _ _ _)] at f1 f2 f3 f4 f5
  obtain ⟨n0, e0, w0⟩ := Rd.int (k := .u32) f0
  obtain ⟨n1, e1, w1⟩ := Rd.int (k := .i64) f1
  obtain ⟨n2, e2, w2⟩ := Rd.int (k := .i64) f2
  obtain ⟨n3, e3, w3⟩ := Rd.int (k := .i64) f3
  obtain ⟨n4, e4, w4⟩ := Rd.int (k := .i64) f4
  obtain ⟨n5, e5, w5⟩ := Rd.int (k := .i64) f5
  obtain ⟨q, rfl⟩ := u32_of w0
  refine ⟨⟨q, n1, n2, n3, n4, n5⟩, ?_⟩
  rw [ha]
  generalize v.cells.toList = cs at hl e0 e1 e2 e3 e4 e5
  match cs, hl with
  | [x0, x1, x2, x3, x4, x5], _ =>
    simp at e0 e1 e2 e3 e4 e5
    rw [e0, e1, e2, e3, e4, e5]
end
end Go.Proofs.YtbjnjedfoiedeaaDoor
set_option linter.unusedVariables false
set_option maxRecDepth 100000
namespace Go.Proofs.YtbjnjedfoiedeaaDoor
open Go Go.Eng Go.ChangeShapes Go.WideShapes Go.ChangeAt Go.RowKit
section
variable {H : Type} {enc : TypeId × Value → H} {W : World}
theorem sums_of {laid : List (String × DataW Unit)} (h : laidMet Tryd.prog laid W) (h1 : ("tearoff/sets.sums", Rows.laid_tearoff_sets_sums) ∈ laid) : ∃ T fr, memOf W 4 = some (.cells (List.toArray [.int .i64 0, .int .i64 32, .int .i64 0, .int .i64 24, .int .i64 1, .int .i64 32, .int .i64 1, .int .i64 24]) T fr) := by
  obtain ⟨ps, hv, _⟩ := h
  obtain ⟨g', t', cs, fuel, p, e1, e2, e3, e4⟩ := laidVars_mem hv h1
  obtain rfl := Option.some.inj ((show Tryd.prog.globalNamed "tearoff/sets.sums" = some 4 by kernel_rfl).symm.trans e1)
  obtain rfl := Option.some.inj ((show (Tryd.prog.globals[4]?).map (·.type) = some 146 by kernel_rfl).symm.trans e2)
  obtain ⟨T, fr, hh⟩ := var_heap e1 e3
  obtain ⟨xs, m', hx', hx, hl, hn, hel⟩ := DataW.trod_array (ti146 : TI Tryd.prog 146 _ _ _ _).und e4
  rw [TI.cellsOf (ti146 : TI Tryd.prog 146 _ _ _ _)] at hl
  rw [TI.cellsOf (ti127 : TI Tryd.prog 127 _ _ _ _)] at hel
  unfold Rows.laid_tearoff_sets_sums at hx
  refine ⟨T, fr, ?_⟩
  rw [hh]
  obtain ⟨cl, rfl⟩ : ∃ cl : List Value, cs = cl.toArray := ⟨cs.toList, by simp⟩
  match xs, hn with
  | [x0, x1, x2, x3], _ =>
    simp only [Prod.mk.injEq, DataW.agg.injEq, List.map_cons, List.map_nil, List.cons.injEq, and_true] at hx
    have k0 := hel 0 (by omega)
    have k1 := hel 1 (by omega)
    have k2 := hel 2 (by omega)
    have k3 := hel 3 (by omega)
    match cl, hl with
    | [c0, c1, c2, c3, c4, c5, c6, c7], _ =>
      simp at k0 k1 k2 k3
      obtain ⟨q0, q0'⟩ := x0
      obtain ⟨q1, q1'⟩ := x1
      obtain ⟨q2, q2'⟩ := x2
      obtain ⟨q3, q3'⟩ := x3
      obtain ⟨⟨rfl, rfl, rfl, rfl⟩, _⟩ := hx
      have r0 := trod_pair (te := ti3) ⟨rfl, rfl⟩ ⟨rfl, rfl⟩ k0
      have r1 := trod_pair (te := ti3) ⟨rfl, rfl⟩ ⟨rfl, rfl⟩ k1
      have r2 := trod_pair (te := ti3) ⟨rfl, rfl⟩ ⟨rfl, rfl⟩ k2
      have r3 := trod_pair (te := ti3) ⟨rfl, rfl⟩ ⟨rfl, rfl⟩ k3
      simp only [List.cons.injEq, and_true] at r0 r1 r2 r3
      rw [r0.1, r0.2, r1.1, r1.2, r2.1, r2.2, r3.1, r3.2]
theorem setT_of {laid : List (String × DataW Unit)} (h : laidMet Tryd.prog laid W) (h1 : ("tearoff/sets.sums", Rows.laid_tearoff_sets_sums) ∈ laid) (h2 : ("tearoff/sets.heights", Rows.laid_tearoff_sets_heights) ∈ laid) (h3 : ("tearoff/sets.own", Rows.laid_tearoff_sets_own) ∈ laid) : SetT (memOf W) := by
  refine ⟨sums_of h h1, ?_, ?_⟩
  · obtain ⟨T, fr, hc⟩ := laid_ints h [5, 10, 15, 20, 25] h2 (show Tryd.prog.globalNamed "tearoff/sets.heights" = some 3 by kernel_rfl) (show (Tryd.prog.globals[3]?).map (·.type) = some 141 by kernel_rfl) ti141 ti3 rfl
    exact ⟨T, fr, hc⟩
  · obtain ⟨T, fr, hc⟩ := laid_ints h [1, 2, 3, 4] h3 (show Tryd.prog.globalNamed "tearoff/sets.own" = some 2 by kernel_rfl) (show (Tryd.prog.globals[2]?).map (·.type) = some 130 by kernel_rfl) ti130 ti3 rfl
    exact ⟨T, fr, hc⟩
theorem mrG_of {laid : List (String × DataW Unit)} (e : laid = [("tearoff/keccak.rc", Rows.laid_tearoff_keccak_rc), ("tearoff/keccak.turns", Rows.laid_tearoff_keccak_turns), ("tearoff/sets.sums", Rows.laid_tearoff_sets_sums), ("tearoff/sets.heights", Rows.laid_tearoff_sets_heights), ("tearoff/sets.own", Rows.laid_tearoff_sets_own), ("tearoff/sha2.k", Rows.laid_tearoff_sha2_k), ("tearoff/sha2.first", Rows.laid_tearoff_sha2_first)]) (h : laidMet Tryd.prog laid W) : MrG (memOf W) :=
  ⟨shaG_of h (by rw [e]; simp) (by rw [e]; simp), kecG_of h (by rw [e]; simp) (by rw [e]; simp), setT_of h (by rw [e]; simp) (by rw [e]; simp) (by rw [e]; simp)⟩
theorem tree_arg {v : Value} {r : Reach} {b : Nat} (k : Value.okWide Tryd.prog W r b 30 v) (h : Rd enc Tryd.prog W 30 v.cells.toList) : ∃ t : TreeV, v = .agg (List.toArray t.cells) := by
  have ha := agg_of (d := .struct _) rfl k
  obtain ⟨hl, hf⟩ := h.struct
  have f0 := hf _ (List.mem_cons_self)
  have f1 := hf _ (List.mem_cons_of_mem _ List.mem_cons_self)
  have f2 := hf _ (List.mem_cons_of_mem _ (List.mem_cons_of_mem _ List.mem_cons_self))
  have f3 := hf _ (List.mem_cons_of_mem _ (List.mem_cons_of_mem _ (List.mem_cons_of_mem _ List.mem_cons_self)))
  rw [TI.cellsOf (ti28 : TI Tryd.prog 28 _ _ _ _)] at f0
  rw [TI.cellsOf (ti3 : TI Tryd.prog 3 _ _ _ _)] at f1 f2 f3
  obtain ⟨n0, e0, w0⟩ := Rd.int (k := .u32) f0
  obtain ⟨n1, e1, w1⟩ := Rd.int (k := .i64) f1
  obtain ⟨n2, e2, w2⟩ := Rd.int (k := .i64) f2
  obtain ⟨n3, e3, w3⟩ := Rd.int (k := .i64) f3
  obtain ⟨q, rfl⟩ := u32_of w0
  refine ⟨⟨q, n1, n2, n3⟩, ?_⟩
  rw [ha]
  generalize v.cells.toList = cs at hl e0 e1 e2 e3
  match cs, hl with
  | [x0, x1, x2, x3], _ =>
    simp at e0 e1 e2 e3
    rw [e0, e1, e2, e3]
end
end Go.Proofs.YtbjnjedfoiedeaaDoor
set_option linter.unusedVariables false
set_option maxRecDepth 100000
namespace Go.Proofs.YtbjnjedfoiedeaaDoor
open Go Go.Eng Go.ChangeShapes Go.WideShapes Go.ChangeAt Go.RowKit
section
variable {H : Type} {enc : TypeId × Value → H} {W : World}
theorem wkG_of {laid : List (String × DataW Unit)} (e : laid = [("math/bits.deBruijn64tab", Rows.laid_math_bits_deBruijn64tab), ("tearoff/keccak.rc", Rows.laid_tearoff_keccak_rc), ("tearoff/keccak.turns", Rows.laid_tearoff_keccak_turns), ("tearoff/sets.sums", Rows.laid_tearoff_sets_sums), ("tearoff/sets.heights", Rows.laid_tearoff_sets_heights), ("tearoff/sets.own", Rows.laid_tearoff_sets_own), ("tearoff/sha2.k", Rows.laid_tearoff_sha2_k), ("tearoff/sha2.first", Rows.laid_tearoff_sha2_first)]) (h : laidMet Tryd.prog laid W) : WkG (memOf W) :=
  ⟨⟨shaG_of h (by rw [e]; simp) (by rw [e]; simp), kecG_of h (by rw [e]; simp) (by rw [e]; simp), setT_of h (by rw [e]; simp) (by rw [e]; simp) (by rw [e]; simp)⟩, by
    refine ⟨?_⟩
    obtain ⟨T, fr, hc⟩ := laid_ints h (deB.map fun (x : Nat) => (x : Int)) (by rw [e]; exact List.mem_cons_self) (show Tryd.prog.globalNamed "math/bits.deBruijn64tab" = some 0 by kernel_rfl) (show (Tryd.prog.globals[0]?).map (·.type) = some 116 by kernel_rfl) ti116 ti5 rfl
    refine ⟨T, fr, ?_⟩
    rw [hc, List.map_map]
    rfl⟩
theorem rows_arg {v : Value} {r : Reach} {b : Nat} (k : Value.okWide Tryd.prog W r b 23 v) (h : RdW enc Tryd.prog W 23 v.cells.toList) : ∃ (A : Option Addr) (n c : Nat) (vs : List Value) (keys : List (List UInt8)), v = .slice A n c ∧ Row (memOf W) 1 A n c vs ∧ BRows (memOf W) vs keys ∧ (∀ b ∈ keys, b.length ≤ 140737488355328) := by
  obtain ⟨A, n, c, vs, keys, e0, hr, hb, hs⟩ := RdW.brows (ti := ti22) (te := ti5) h
  exact ⟨A, n, c, vs, keys, one_of (ti := ti23) rfl k e0, hr, hb, hs⟩
theorem i8_of {n : Int} (h : (Lit.int .i8 n).wf = true) : -128 ≤ n ∧ n ≤ 127 := by
  simpa [Lit.wf, IntKind.min, IntKind.max, IntKind.bits, IntKind.signed] using h
theorem i8s_arg {v : Value} {r : Reach} {b : Nat} (k : Value.okWide Tryd.prog W r b 26 v) (h : Rd enc Tryd.prog W 26 v.cells.toList) : ∃ (A : Option Addr) (n c : Nat) (xs : List Int), v = .slice A n c ∧ Row (memOf W) 1 A n c (xs.map (Value.int .i8)) ∧ ∀ x ∈ xs, -128 ≤ x ∧ x ≤ 127 := by
  obtain ⟨A, len, cap, xs, e0, hr, hx⟩ := Rd.ints (k := .i8) (te := ti37) h
  exact ⟨A, len, cap, xs, one_of (ti := ti26) rfl k e0, hr, fun x hm => i8_of (hx x hm)⟩
theorem wkeys_arg {v : Value} {r : Reach} {b : Nat} (k : Value.okWide Tryd.prog W r b 25 v) (h : RdW enc Tryd.prog W 25 v.cells.toList) : ∃ (code : UInt8) (NA : Option Addr) (nl nc : Nat) (name : List UInt8) (A : Option Addr) (n c : Nat) (vs : List Value) (keys : List (List UInt8)), v = .agg (List.toArray [.int .u8 (code.toNat : Int), .slice NA nl nc, .slice A n c]) ∧ Bytes (memOf W) NA nl nc name ∧ Row (memOf W) 1 A n c vs ∧ BRows (memOf W) vs keys ∧ (∀ b ∈ keys, b.length ≤ 140737488355328) := by
  have ha := agg_of (d := .struct _) rfl k
  obtain ⟨hl, f0, f1, f2⟩ := RdW.struct3 h
  rw [TI.cellsOf (ti5 : TI Tryd.prog 5 _ _ _ _)] at f0
  rw [TI.cellsOf (ti22 : TI Tryd.prog 22 _ _ _ _)] at f1
  rw [TI.cellsOf (ti23 : TI Tryd.prog 23 _ _ _ _)] at f2
  obtain ⟨n1, e1, w1⟩ := Rd.int (k := .u8) f0.rd
  obtain ⟨NA, nl, nc, name, e2, hk⟩ := Rd.bytes (te := ti5) f1.rd
  obtain ⟨A, n, c, vs, keys, e0, hr, hb, hs⟩ := RdW.brows (ti := ti22) (te := ti5) f2
  obtain ⟨q, rfl⟩ := u8_of w1
  refine ⟨q, NA, nl, nc, name, A, n, c, vs, keys, ?_, hk, hr, hb, hs⟩
  rw [ha]
  generalize v.cells.toList = cs at hl e0 e1 e2
  match cs, hl with
  | [x0, x1, x2], _ =>
    simp at e0 e1 e2
    rw [e0, e1, e2]
end
end Go.Proofs.YtbjnjedfoiedeaaDoor
set_option linter.unusedVariables false
set_option linter.constructorNameAsVariable false
set_option maxRecDepth 100000
namespace Go.Proofs.YtbjnjedfoiedeaaDoor
open Go Go.Eng Go.ChangeShapes Go.WideShapes Go.ChangeAt Go.RowKit
section
variable {H : Type} {enc : TypeId × Value → H} {W : World}
theorem wagain_con {v0 v1 : Value} {r : Reach} {b : Nat} (hl : laidMet Tryd.prog Rows.walkAgainRow.laid W) (k0 : Value.okWide Tryd.prog W r b 25 v0) (k1 : Value.okWide Tryd.prog W r b 5 v1)
    (h0 : RdW enc Tryd.prog W 25 v0.cells.toList) (h1 : RdW enc Tryd.prog W 5 v1.cells.toList) :
    Con Tryd.prog 6 #[v0, v1] W (memOf W) [] (fun v _ _ => v = .bool true) noPanic := by
  obtain ⟨code, NA, nl, nc, name, A, n, c, vs, keys, rfl, hn, hr, hb, hs⟩ := wkeys_arg k0 h0
  obtain ⟨y, rfl⟩ := byte_arg k1 h1.rd
  exact WalkAgain_spec (wkG_of rfl hl) code hn hr hb y
end
end Go.Proofs.YtbjnjedfoiedeaaDoor
