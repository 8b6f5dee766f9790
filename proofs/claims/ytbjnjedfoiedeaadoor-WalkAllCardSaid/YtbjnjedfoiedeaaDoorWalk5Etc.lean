/-
Contracts of functions, each proved by a walk through its code.
-/
import Derived.Test.YtbjnjedfoiedeaaDoorBitsEtc
import Derived.Test.YtbjnjedfoiedeaaDoorRef8bEtc
set_option linter.unusedVariables false
set_option linter.unusedSimpArgs false
set_option linter.constructorNameAsVariable false
namespace Go.Proofs.YtbjnjedfoiedeaaDoor
open Go Go.Eng
section
variable {G : World} {M : Mem} {L R : Own}
theorem bytesClone_in {A : Option Addr} {n c : Nat} {bs : List UInt8} (h : RowIn M L 1 A n (bs.map bv)) (hn : n ≤ 140737488355328) :
    Con Tryd.prog 44 #[.slice A n c] G M L (fun v M' L' => L' = L ∧ ∃ A' c', v = .slice A' n c' ∧ Bytes M' A' n c' bs) noPanic := by
  have hbl : bs.length = n := by have := h.len; simpa using this
  refine enter (args := [_]) (fn := Tryd.f44) ⟨Tryd.func44, rfl, by kernel_rfl, by kernel_rfl⟩ 8 rfl ?_
  refine x_seq (x_region ?_)
  refine tl_y rfl (y_assign rfl) ?_
  refine tl_nil (.then_normal ?_)
  refine x_seq (x_seq (x_region ?_))
  refine tl_y rfl (y_move (v := .slice _ _ _) rfl) ?_
  refine tl_y rfl (y_eqNilSlice rfl rfl) ?_
  refine tl_nil (.then_normal ?_)
  refine x_condb rfl (fun hc1 => ?_) (fun hc1 => ?_)
  ·
    obtain rfl : A = none := by simpa using hc1
    have h0 : n = 0 := by
      rcases Nat.eq_zero_or_pos n with h0 | h0
      · exact h0
      · obtain ⟨b, o, e, _⟩ := h.addr h0; cases e
    subst h0
    have hb : bs = [] := List.eq_nil_of_length_eq_zero hbl
    subst hb
    refine x_seq (x_region ?_)
    refine tl_y rfl (y_assign rfl) ?_
    refine tl_nil (.then_normal ?_)
    refine x_ret (.then_ret (ret1 rfl rfl (Le.refl _) ⟨rfl, none, 0, rfl, Row.nil _ _⟩))
  ·
    refine x_skip (.then_normal ?_)
    refine x_seq (x_region ?_)
    refine tl_e rfl (e_buildSlice0 (fun b1 => ?_))
    refine tl_y rfl (y_move (v := .slice _ _ _) rfl) ?_
    refine tl_e rfl (e_append1 (by decide) rfl rfl OwnRow.made00 (src_in h) (all_one_bv bs) (by omega) (by omega) (fun A' cap' E hE => ?_))
    rw [Nat.zero_add, List.nil_append] at hE; rw [Nat.zero_add]
    refine tl_y rfl (y_assign (v := .slice _ _ _) rfl) ?_
    refine tl_nil (.then_normal ?_)
    refine .sub (F' := [(2, _)]) (.cons rfl .nil) ?_
    refine x_ret (.pubRow hE fun M' hle hr => ret1 rfl rfl hle ⟨rfl, _, _, rfl, hr⟩)
end
section
variable {G : World} {M : Mem} {L R : Own} {name : List UInt8} {keys : List (List UInt8)}
theorem WNew_spec (hg : WkG M) (t : TreeV) {NA : Option Addr} {nl nc : Nat} (hname : Bytes M NA nl nc name) {KA : Option Addr} {kl kc : Nat} {kvs : List Value} (hkr : RowIn M L 1 KA kl kvs) (hkb : BIn M L kvs keys) (hkl63 : kl ≤ 9223372036854775807) (hks : ∀ b ∈ keys, b.length ≤ 1000000000000) :
    Con Tryd.prog 13 #[.agg (List.toArray t.cells), .slice NA nl nc, .slice KA kl kc] G M L
      (fun v M' L' => if okM t nl kl then ∃ b E, v = .tuple #[.pointer (some ⟨b, 0, none⟩), .int .i64 0] ∧ WalkS M' t t.h.toNat name keys b 0 E ∧ L' = E ++ L
        else v = .tuple #[.pointer none, .int .i64 1] ∧ L' = L) noPanic := by
  have hvl := hkb.1
  have hkn : kvs.length = kl := by have := hkr.len; omega
  have hns := hname.size
  refine enter (args := [_, _, _]) (fn := Tryd.f13) ⟨Tryd.func13, rfl, by kernel_rfl, by kernel_rfl⟩ 43 rfl ?_
  refine x_seq (x_region ?_)
  refine tl_e rfl (e_box rfl (fun b1 => ?_))
  refine tl_y rfl (y_assign rfl) ?_
  refine tl_y rfl (y_assign rfl) ?_
  refine tl_nil (.then_normal ?_)
  refine x_seq (x_seq (x_region ?_))
  refine tl_y rfl (y_loadAgg rfl rfl (.own inferInstance inferInstance)) ?_
  refine tl_y rfl (y_move (v := .slice _ _ _) rfl) ?_
  refine tl_y rfl (y_move (v := .slice _ _ _) rfl) ?_
  refine tl_e rfl (e_call' rfl (May_spec hg.mr t (by omega)) ?_)
  rintro _ M1 _ hM1 ⟨rfl, rfl⟩
  refine tl_y rfl (y_notd rfl) ?_
  refine tl_nil (.then_normal ?_)
  refine .sub (F' := [(1, _), (2, _), (3, _), (15, _)]) (.cons rfl (.cons rfl (.cons rfl (.cons rfl .nil)))) ?_
  refine x_cond rfl (fun hc1 => ?_) (fun hc1 => ?_)
  ·
    refine x_seq (x_region ?_)
    refine tl_y rfl (y_assign rfl) ?_
    refine tl_y rfl (y_assign rfl) ?_
    refine tl_nil (.then_normal ?_)
    refine .sub (F' := [(6, _), (7, _)]) (.cons rfl (.cons rfl .nil)) ?_
    refine x_ret (.then_ret (.dropTo L inferInstance (ret2 rfl rfl rfl hM1 (by rw [if_neg hc1]; exact ⟨rfl, rfl⟩))))
  ·
    have hok : okM t nl kl := Classical.not_not.1 hc1
    obtain ⟨hokc, H, hH, hH1, hH25, hlv⟩ := okS_facts hok.1
    have hkl : kl = pw2 H := by rw [← hlv]; exact hok.2.2
    have hH10 := hok.2.1
    have hpw := pw2_25 hH25
    have hnl : nl = 16 := hok.1.2.2
    subst hnl
    subst hkl
    obtain ⟨g, o, rfl, hcell⟩ := hkr.addr (pw2_pos H)
    refine x_skip (.then_normal ?_)
    refine x_seq ?_
    refine x_meet (I := fun F D M2 L2 => ∃ (NA2 : Option Addr) (nc2 bw b : Nat), D = [] ∧ Le M1 M2 ∧ Bytes M2 NA2 16 nc2 name ∧ DropTo L2 (wkL b t NA2 nc2 none 0 0 (-1) bw H 0 (List.replicate H (.slice none 0 0)) L) ∧ F = [(2, .slice (some ⟨g, o, none⟩) (pw2 H) kc), (8, .pointer (some ⟨b, 0, none⟩))]) ?_ (fun Jd3 => ?_)
    ·
      rintro _ _ M2 L2 ⟨NA2, nc2, bw, b, rfl, hM2, hn2, hdr, rfl⟩  -- slots [2, 8]
      refine .dropTo _ hdr ?_
      have hd := hM1.trans hM2
      refine x_seq (x_seq (x_region ?_))
      refine tl_y rfl (y_move (v := .slice _ _ _) rfl) ?_
      refine tl_y rfl (y_len rfl) ?_
      refine tl_y rfl (y_move rfl) ?_
      refine tl_nil (.then_normal ?_)
      refine x_block ?_
      refine x_loop (I := fun m' F D M3 L3 => ∃ (k : Nat) (A1 : Option Addr) (c1 : Nat) (E : Own) (vs : List Value), m' = pw2 H - k ∧ k ≤ pw2 H ∧ Le M2 M3 ∧ OwnRow 22 1 A1 k c1 vs E ∧ BRows M3 vs (keys.take k) ∧ D = [] ∧ L3 = E ++ wkL b t NA2 nc2 A1 k c1 (-1) bw H 0 (List.replicate H (.slice none 0 0)) L ∧ F = [(8, .pointer (some ⟨b, 0, none⟩)), (24, .slice (some ⟨g, o, none⟩) (pw2 H) kc), (25, .int .i64 (pw2 H : Nat)), (26, .int .i64 k)]) (pw2 H) (F0 := [(8, _), (24, _), (25, _), (26, _)]) ?_ (.cons rfl (.cons rfl (.cons rfl (.cons rfl .nil)))) ?_  -- slots [8, 24, 25, 26], written [26]
      · exact ⟨0, none, 0, [], [], rfl, by omega, Le.refl _, .nil, .nil, rfl, rfl, rfl⟩
      rintro m _ _ M3 _ ⟨k, A1, c1, E, vs, rfl, hk, he, hE, hB, rfl, rfl, rfl⟩
      refine x_seq (x_region ?_)
      refine tl_y rfl (y_lss rfl rfl) ?_
      refine tl_nil (.then_normal ?_)
      refine x_seq ?_
      refine x_cond rfl (fun hc2 => ?_) (fun hc2 => ?_)
      ·
        have hkH : k < pw2 H := by omega
        have hd3 := hd.trans he
        obtain ⟨A3, n3, c3, hv3, hb3⟩ := hkb.2 k (by omega)
        have hn3 : (keys.getD k []).length = n3 := by have := hb3.len; simpa using this
        have hn3' := hks _ (getD_mem keys k [] (by omega))
        have hin : ∀ p ∈ L, p ∈ E ++ wkL b t NA2 nc2 A1 k c1 (-1) bw H 0 (List.replicate H (.slice none 0 0)) L := Keeps.mem
        refine x_skip (.then_normal ?_)
        refine x_seq ?_
        refine x_block ?_
        refine x_seq (x_region ?_)
        refine tl_y rfl (y_indexAddr rfl rfl (by omega)) ?_
        refine tl_y rfl (y_load rfl rfl (.at_ (cellAt_up (hcell k _ hv3) hd3 hin) (by omega))) ?_
        refine tl_y rfl (y_assign (v := .slice _ _ _) rfl) ?_
        refine tl_nil (.then_normal ?_)
        refine x_draw 8 hmix rfl ?_
        refine to_p 0 rfl (by kernel_rfl) rfl (y_move (v := .pointer _) rfl) ?_
        refine to_p 1 rfl (by kernel_rfl) rfl (y_move (v := .pointer _) rfl) ?_
        refine to_p 2 rfl (by kernel_rfl) rfl (y_nilCheck rfl) ?_
        refine to_p 3 rfl (by kernel_rfl) rfl (y_fieldAddr rfl) ?_
        refine to_y 4 rfl (by kernel_rfl) rfl (y_load rfl rfl (.own inferInstance inferInstance)) ?_
        refine to_p 5 rfl (by kernel_rfl) rfl (y_move (v := .slice _ _ _) rfl) ?_
        refine to_e 6 rfl (by kernel_rfl) rfl (e_call' rfl (bytesClone_in (rowIn_up hb3 hd3 hin) (by omega)) ?_)
        rintro _ M4 _ hM4 ⟨rfl, A4, c4, rfl, hA4⟩
        refine ⟨⟨hM4, Keeps.mem⟩, ?_⟩
        refine to_e 7 rfl (by kernel_rfl) rfl (e_buildSlice rfl (by decide) (fun b4 => ?_))
        refine ⟨⟨hM4, Keeps.mem⟩, ?_⟩
        refine .pub b4 inferInstance (fun M5 hM5 hb5 => ?_)
        refine to_t 8 rfl (by kernel_rfl) (by kernel_rfl) rfl (e_append (by decide) rfl rfl hE (.row (Row.whole (s := 1) hb5 rfl (by omega))) rfl (by omega) (by omega) (fun A7 c7 E7 hE7 => ?_))
        refine to_p 9 rfl (by kernel_rfl) rfl (y_nilCheck rfl) ?_
        refine to_p 10 rfl (by kernel_rfl) rfl (y_fieldAddr rfl) ?_
        refine to_t 11 rfl (by kernel_rfl) (by kernel_rfl) rfl (e_store rfl rfl (by rfl) (by rfl) inferInstance inferInstance inferInstance ?_)
        refine to_nil (by kernel_rfl) (.block_normal (.then_normal ?_))
        refine .sub (F' := [(8, _), (24, _), (25, _), (26, _)]) (.cons rfl (.cons rfl (.cons rfl (.cons rfl .nil)))) ?_
        refine x_region ?_
        refine tl_y rfl (y_addI rfl rfl (by omega)) ?_
        refine tl_y rfl (y_move (v := .int _ _) rfl) ?_
        refine tl_nil (.loop_next (m' := pw2 H - (k + 1)) (by omega) (F' := [(8, _), (24, _), (25, _), (26, _)]) (.cons rfl (.cons rfl (.cons rfl (.cons rfl .nil)))) ?_)
        exact ⟨k + 1, A7, c7, E7, _, rfl, by omega, he.trans (hM4.trans hM5), hE7, by
          rw [List.take_add_one, List.getElem?_eq_getElem (by omega)]
          have := (hB.mono (hM4.trans hM5)).snoc (hA4.mono hM5)
          rw [List.getD_eq_getElem?_getD, List.getElem?_eq_getElem (by omega)] at this
          exact this, rfl, rfl, rfl⟩
      ·
        obtain rfl : k = pw2 H := by omega
        rw [List.take_of_length_le (by omega)] at hB
        refine .pubRow hE (fun M4 hM4 hrow4 => ?_)
        refine x_exit (.then_exit (.loop_exit (.block_exit (.then_normal ?_))))
        refine .sub (F' := [(8, _)]) (.cons rfl .nil) ?_
        refine x_seq (x_region ?_)
        refine tl_y rfl (y_move (v := .pointer _) rfl) ?_
        refine tl_y rfl (y_assign (v := .pointer _) rfl) ?_
        refine tl_y rfl (y_assign rfl) ?_
        refine tl_nil (.then_normal ?_)
        refine x_ret (ret2 rfl rfl rfl (hd.trans (he.trans hM4)) (by
          rw [if_pos hok]
          rw [hH, Int.toNat_natCast]
          exact ⟨b, wkL b t NA2 nc2 A1 (pw2 H) c1 (-1) bw H 0 (List.replicate H (.slice none 0 0)) [], rfl, ⟨bw, NA2, nc2, A1, c1, vs, List.replicate H (.slice none 0 0), rfl, hn2.mono (he.trans hM4), hrow4, hB.mono hM4, by simp, fun h => absurd h (by omega)⟩, rfl⟩))
    ·
      refine x_draw 9 hmix rfl ?_
      refine to_y 0 rfl (by kernel_rfl) rfl (y_loadAgg rfl rfl (.own inferInstance inferInstance)) ?_
      refine to_p 1 rfl (by kernel_rfl) rfl (y_move (v := .slice _ _ _) rfl) ?_
      refine to_p 3 rfl (by kernel_rfl) rfl (y_fieldAddr rfl) ?_
      refine to_y 4 rfl (by kernel_rfl) rfl (y_load (v := .int .i64 (H : Int)) rfl rfl (by rw [← hH]; exact .own inferInstance inferInstance)) ?_
      refine to_two 2 5 (by kernel_rfl) ?_ ?_
      ·
        refine two_e 2 rfl rfl (e_call' rfl (bytesClone_spec (hname.mono hM1) (by omega)) ?_)
        rintro _ M2 _ hM2 ⟨rfl, A2, c2, rfl, hA2⟩
        refine ⟨⟨(by first | exact Le.refl _ | assumption), Keeps.mem⟩, ?_⟩
        refine to_e 5 rfl (by kernel_rfl) rfl (e_make1 rfl rfl (by omega) (by omega) (by omega) (by omega) (fun b2 => ?_))
        rw [Int.toNat_natCast]
        refine ⟨⟨(by first | exact Le.refl _ | assumption), Keeps.mem⟩, ?_⟩
        refine to_p 6 rfl (by kernel_rfl) rfl (y_build rfl) ?_
        refine to_e 7 rfl (by kernel_rfl) rfl (e_box rfl (fun b3 => ?_))
        refine ⟨⟨(by first | exact Le.refl _ | assumption), Keeps.mem⟩, ?_⟩
        refine to_p 8 rfl (by kernel_rfl) rfl (y_assign (v := .pointer _) rfl) ?_
        refine to_nil (by kernel_rfl) (.then_normal (.sub (F' := [(2, _), (8, _)]) (.cons rfl (.cons rfl .nil)) (Jd3 _ _ _ _ ?_)))
        exact ⟨A2, c2, b2, b3, rfl, hM2, hA2, inferInstance, rfl⟩
      ·
        refine two_e 5 rfl rfl (e_make1 rfl rfl (by omega) (by omega) (by omega) (by omega) (fun b4 => ?_))
        rw [Int.toNat_natCast]
        refine ⟨⟨(by first | exact Le.refl _ | assumption), Keeps.mem⟩, ?_⟩
        refine to_e 2 rfl (by kernel_rfl) rfl (e_call' rfl (bytesClone_spec (hname.mono hM1) (by omega)) ?_)
        rintro _ M2 _ hM2 ⟨rfl, A2, c2, rfl, hA2⟩
        refine ⟨⟨(by first | exact Le.refl _ | assumption), Keeps.mem⟩, ?_⟩
        refine to_p 6 rfl (by kernel_rfl) rfl (y_build rfl) ?_
        refine to_e 7 rfl (by kernel_rfl) rfl (e_box rfl (fun b5 => ?_))
        refine ⟨⟨(by first | exact Le.refl _ | assumption), Keeps.mem⟩, ?_⟩
        refine to_p 8 rfl (by kernel_rfl) rfl (y_assign (v := .pointer _) rfl) ?_
        refine to_nil (by kernel_rfl) (.then_normal (.sub (F' := [(2, _), (8, _)]) (.cons rfl (.cons rfl .nil)) (Jd3 _ _ _ _ ?_)))
        exact ⟨A2, c2, b4, b5, rfl, hM2, hA2, inferInstance, rfl⟩
end
end Go.Proofs.YtbjnjedfoiedeaaDoor
set_option linter.unusedVariables false
set_option linter.unusedSimpArgs false
set_option linter.constructorNameAsVariable false
namespace Go.Proofs.YtbjnjedfoiedeaaDoor
open Go Go.Eng
theorem rv4 {P : Program} {F : Fr} {M : Mem} {L : Own} {fn : Func} {r r' r'' r3 : ResultVar} {v v' v'' v3 : Value} (hr : fn.results = #[r, r', r'', r3]) (h : RC P F M L r v) (h' : RC P F M L r' v') (h'' : RC P F M L r'' v'') (h3' : RC P F M L r3 v3) : RV P fn F M L (.tuple #[v, v', v'', v3]) := fun w tmps hs ht => by
  have h1 := h w tmps hs ht
  have h2 := h' w tmps hs ht
  have h3 := h'' w tmps hs ht
  have h4 := h3' w tmps hs ht
  simp only [results, hr, List.mapM_toArray, List.mapM_cons, List.mapM_nil, Sem.run_bind, Sem.run_map]
  cases r <;> cases r' <;> cases r'' <;> cases r3 <;> simp_all [Sem.run_bind]
theorem own24 (i : Nat) (hi : i < 16) : ∃ (t : TreeV) (H : Nat), treeV (UInt32.ofNat (4026531841 + i)) = t ∧ treeE (UInt32.ofNat (4026531841 + i)) = 0 ∧ okS t 16 ∧ t.h = (H : Int) ∧ 1 ≤ H ∧ H ≤ 4 := by
  have h : ∀ i : Fin 16, (treeE (UInt32.ofNat (4026531841 + i.val)) = 0) ∧ okS (treeV (UInt32.ofNat (4026531841 + i.val))) 16 ∧ 1 ≤ (treeV (UInt32.ofNat (4026531841 + i.val))).h ∧ (treeV (UInt32.ofNat (4026531841 + i.val))).h ≤ 4 := by decide +kernel
  obtain ⟨h1, h2, h3, h4⟩ := h ⟨i, hi⟩
  simp only at h1 h2 h3 h4
  exact ⟨_, (treeV (UInt32.ofNat (4026531841 + i))).h.toNat, rfl, h1, h2, by omega, by omega, by omega⟩
theorem row_take {M : Mem} {A : Option Addr} {n c : Nat} {vs : List Value} (h : Row M 1 A n c vs) (k : Nat) (hk : k ≤ n) : Row M 1 (sl A 0 c 1) k c (vs.take k) := by
  have hle := h.le
  have := Row.slice (l := 0) (h := k) (m := c) h (by omega) hk (by omega) (Nat.le_refl _)
  simpa using this
theorem brows_take {M : Mem} {vs : List Value} {bss : List (List UInt8)} (h : BRows M vs bss) (k : Nat) : BRows M (vs.take k) (bss.take k) := by
  induction h generalizing k with
  | nil => simpa using BRows.nil
  | cons hb ht ih =>
    cases k with
    | zero => exact .nil
    | succ k => exact .cons hb (ih k)
section
variable {G : World} {M : Mem} {L : Own}
theorem wset_spec (code : UInt8) {NA : Option Addr} {nl nc : Nat} {name : List UInt8} (hname : Bytes M NA nl nc name) {WA : Option Addr} {wl wc : Nat} {wvs : List Value} {keys : List (List UInt8)} (h : Row M 1 WA wl wc wvs) (hw : BRows M wvs keys) :
    Con Tryd.prog 12 #[.agg (List.toArray [.int .u8 (code.toNat : Int), .slice NA nl nc, .slice WA wl wc])] G M L (fun v M' L' => M = M' ∧ L = L' ∧ ∃ (t : TreeV) (ok : Bool) (A1 : Option Addr) (n1 c1 : Nat) (A2 : Option Addr) (n2 c2 : Nat), v = .tuple #[.agg (List.toArray t.cells), .slice A1 n1 c1, .slice A2 n2 c2, .bool ok] ∧
      (ok = true → ∃ (H : Nat) (name' : List UInt8) (vs' : List Value) (keys' : List (List UInt8)), okS t 16 ∧ t.h = (H : Int) ∧ 1 ≤ H ∧ H ≤ 4 ∧ n1 = 16 ∧ n2 = pw2 H ∧ Bytes M A1 16 c1 name' ∧ Row M 1 A2 (pw2 H) c2 vs' ∧ BRows M vs' keys' ∧ ∀ b ∈ keys', b.length ≤ 1000)) noPanic := by
  have hwx := h.max
  have hle := h.le
  have hvl := hw.len
  have hwn : wvs.length = wl := by have := h.len; omega
  have hnle := hname.le
  have hnl := hname.size
  have hcl := code.toNat_lt
  obtain ⟨t, H, et, ee, hok, hH, hH1, hH4⟩ := own24 (code.toNat % 16) (Nat.mod_lt _ (by omega))
  obtain ⟨hokc, H', hH', _, _, hlv⟩ := okS_facts hok
  obtain rfl : H = H' := by omega
  have hp4 := pw2_le (j := H) (k := 4) (by omega)
  rw [show pw2 4 = 16 from rfl] at hp4
  have hp1 := pw2_pos H
  refine enter (args := [_]) (fn := Tryd.f12) ⟨Tryd.func12, rfl, by kernel_rfl, by kernel_rfl⟩ 55 rfl ?_
  refine x_seq (x_region ?_)
  refine tl_e rfl (e_box rfl (fun b1 => ?_))
  refine tl_e rfl (e_alloc (fun b2 => ?_))
  refine tl_y rfl (y_assign rfl) ?_
  refine tl_y rfl (y_assign rfl) ?_
  refine tl_y rfl (y_assign rfl) ?_
  refine tl_nil (.then_normal ?_)
  refine x_seq (x_region ?_)
  refine tl_y rfl (y_fieldAddr rfl) ?_
  refine tl_y rfl (y_load rfl rfl (.own inferInstance inferInstance)) ?_
  refine tl_y rfl (y_convN32 rfl (by omega)) ?_
  refine tl_y rfl (y_remI rfl rfl (by omega)) ?_
  refine tl_y rfl (y_addN32 rfl rfl (by omega)) ?_
  rw [show (4026531841 : Int) + (code.toNat : Int) % 16 = (((UInt32.ofNat (4026531841 + code.toNat % 16)).toNat : Nat) : Int) by rw [UInt32.toNat_ofNat', Nat.mod_eq_of_lt (by omega)]; omega]
  refine tl_e rfl (e_call' rfl (RTree_spec _) ?_)
  rintro _ _ _ _ ⟨rfl, rfl, rfl⟩
  rw [et, ee]
  refine tl_y rfl (y_move (v := .tuple _) rfl) ?_
  refine tl_y rfl (y_extract rfl) ?_
  refine tl_y rfl (y_extract rfl) ?_
  refine tl_e rfl (e_alloc (fun b3 => ?_))
  refine tl_e rfl (e_store rfl rfl (by rfl) (by rfl) inferInstance inferInstance inferInstance ?_)
  refine tl_y rfl (y_assign (v := .int _ _) rfl) ?_
  refine tl_nil (.then_normal ?_)
  refine .sub (F' := [(1, _), (2, _), (3, _), (4, _), (5, _), (6, _)]) (.cons rfl (.cons rfl (.cons rfl (.cons rfl (.cons rfl (.cons rfl .nil)))))) ?_
  refine x_seq (x_region ?_)
  refine tl_y rfl (y_loadAgg rfl rfl (.own inferInstance inferInstance)) ?_
  refine tl_e rfl (e_call' rfl (RLeaves_spec t) ?_)
  rintro _ _ _ _ ⟨rfl, rfl, rfl⟩
  rw [hlv]
  refine tl_y rfl (y_convI rfl (by omega)) ?_
  refine tl_y rfl (y_assign (v := .int _ _) rfl) ?_
  refine tl_nil (.then_normal ?_)
  refine x_seq (x_seq (x_region ?_))
  refine tl_y rfl (y_fieldAddr rfl) ?_
  refine tl_y rfl (y_load rfl rfl (.own inferInstance inferInstance)) ?_
  refine tl_y rfl (y_len rfl) ?_
  refine tl_y rfl (y_lss rfl rfl) ?_
  refine tl_y rfl (y_move (v := .bool _) rfl) ?_
  refine tl_cases (s := 26) rfl (fun hk1 => ?_) (fun hk1 => ?_)
  ·
    refine tl_skip rfl ?_
    refine tl_skip rfl ?_
    refine tl_skip rfl ?_
    refine tl_skip rfl ?_
    refine tl_skip rfl ?_
    refine tl_y rfl (y_pickT rfl rfl) ?_
    refine tl_nil (.then_normal ?_)
    refine .sub (F' := [(1, _), (2, _), (3, _), (4, _), (5, _), (6, _), (8, _), (32, _)]) (.cons rfl (.cons rfl (.cons rfl (.cons rfl (.cons rfl (.cons rfl (.cons rfl (.cons rfl .nil)))))))) ?_
    refine x_true rfl rfl ?_
    refine x_seq (x_region ?_)
    refine tl_y rfl (y_loadAgg rfl rfl (.own inferInstance inferInstance)) ?_
    refine tl_e rfl (e_store rfl rfl (by rfl) (by rfl) inferInstance inferInstance inferInstance ?_)
    refine tl_y rfl (y_assign rfl) ?_
    refine tl_y rfl (y_assign rfl) ?_
    refine tl_y rfl (y_assign rfl) ?_
    refine tl_nil (.then_normal ?_)
    refine .sub (F' := [(2, _), (3, _), (4, _), (5, _)]) (.cons rfl (.cons rfl (.cons rfl (.cons rfl .nil)))) ?_
    refine x_ret (.then_ret (retRV (L' := L) (rv4 rfl (rc_cellAgg (by rfl) rfl (.own inferInstance inferInstance)) (rc_tmp rfl) (rc_tmp rfl) (rc_tmp rfl)) inferInstance (Le.refl _) ⟨rfl, rfl, t, false, _, _, _, _, _, _, rfl, fun h => by cases h⟩))
  ·
    refine tl_y rfl (y_fieldAddr rfl) ?_
    refine tl_y rfl (y_load rfl rfl (.own inferInstance inferInstance)) ?_
    refine tl_y rfl (y_len rfl) ?_
    refine tl_y rfl (y_move (v := .int _ _) rfl) ?_
    refine tl_y rfl (y_lss rfl rfl) ?_
    refine tl_y rfl (y_pickF rfl rfl) ?_
    refine tl_nil (.then_normal ?_)
    refine .sub (F' := [(1, _), (2, _), (3, _), (4, _), (5, _), (6, _), (8, _), (32, _)]) (.cons rfl (.cons rfl (.cons rfl (.cons rfl (.cons rfl (.cons rfl (.cons rfl (.cons rfl .nil)))))))) ?_
    refine x_cond rfl (fun hc1 => ?_) (fun hc1 => ?_)
    ·
      refine x_seq (x_region ?_)
      refine tl_y rfl (y_loadAgg rfl rfl (.own inferInstance inferInstance)) ?_
      refine tl_e rfl (e_store rfl rfl (by rfl) (by rfl) inferInstance inferInstance inferInstance ?_)
      refine tl_y rfl (y_assign rfl) ?_
      refine tl_y rfl (y_assign rfl) ?_
      refine tl_y rfl (y_assign rfl) ?_
      refine tl_nil (.then_normal ?_)
      refine .sub (F' := [(2, _), (3, _), (4, _), (5, _)]) (.cons rfl (.cons rfl (.cons rfl (.cons rfl .nil)))) ?_
      refine x_ret (.then_ret (retRV (L' := L) (rv4 rfl (rc_cellAgg (by rfl) rfl (.own inferInstance inferInstance)) (rc_tmp rfl) (rc_tmp rfl) (rc_tmp rfl)) inferInstance (Le.refl _) ⟨rfl, rfl, t, false, _, _, _, _, _, _, rfl, fun h => by cases h⟩))
    ·
      have hnl16 : 16 ≤ nl := by simp at hk1; omega
      have hwl : pw2 H ≤ wl := by omega
      obtain ⟨g, o, rfl, hcell⟩ := h.addr (by omega)
      refine x_skip (.then_normal ?_)
      refine x_seq (x_seq (x_region ?_))
      refine tl_y rfl (y_assign rfl) ?_
      refine tl_nil (.then_normal ?_)
      refine x_block ?_
      refine x_loop (I := fun m' F D M1 L1 => ∃ i : Nat, m' = pw2 H - i ∧ i ≤ pw2 H ∧ (∀ j, j < i → (keys.getD j []).length ≤ 1000) ∧ D = [] ∧ M = M1 ∧ (b3, .cells (List.toArray t.cells) 30 (0, 0)) :: (b2, .cells (List.toArray [.int .u32 0, .int .i64 0, .int .i64 0, .int .i64 0]) 30 (0, 0)) :: (b1, .cells (List.toArray [.int .u8 (code.toNat : Int), .slice NA nl nc, .slice (some ⟨g, o, none⟩) wl wc]) 25 (0, 0)) :: L = L1 ∧ F = [(1, .pointer (some ⟨b1, 0, none⟩)), (2, .pointer (some ⟨b2, 0, none⟩)), (3, .slice none 0 0), (4, .slice none 0 0), (5, .bool false), (6, .pointer (some ⟨b3, 0, none⟩)), (8, .int .i64 (pw2 H : Nat)), (9, .int .i64 i)]) (pw2 H) (F0 := [(1, _), (2, _), (3, _), (4, _), (5, _), (6, _), (8, _), (9, _)]) ?_ (.cons rfl (.cons rfl (.cons rfl (.cons rfl (.cons rfl (.cons rfl (.cons rfl (.cons rfl .nil)))))))) ?_  -- slots [1, 2, 3, 4, 5, 6, 8, 9], written [3, 4, 5, 9]
      · exact ⟨0, rfl, by omega, fun j hj => by omega, rfl, rfl, rfl, rfl⟩
      rintro m _ _ _ _ ⟨i, rfl, hi, hs, rfl, rfl, rfl, rfl⟩
      refine x_seq (x_seq (x_region ?_))
      refine tl_y rfl (y_move (v := .int _ _) rfl) ?_
      refine tl_y rfl (y_move (v := .int _ _) rfl) ?_
      refine tl_y rfl (y_lss rfl rfl) ?_
      refine tl_nil (.then_normal ?_)
      refine x_cond rfl (fun hc2 => ?_) (fun hc2 => ?_)
      ·
        have hil : i < pw2 H := by omega
        obtain ⟨A5, n5, c5, hv5, hb5⟩ := hw.get i (by omega)
        have hn5 := hb5.size
        refine x_skip (.then_normal ?_)
        refine x_seq ?_
        refine x_block ?_
        refine x_seq (x_region ?_)
        refine tl_y rfl (y_fieldAddr rfl) ?_
        refine tl_y rfl (y_load rfl rfl (.own inferInstance inferInstance)) ?_
        refine tl_y rfl (y_move (v := .int _ _) rfl) ?_
        refine tl_y rfl (y_indexAddr rfl rfl (by omega)) ?_
        refine tl_y rfl (y_load rfl rfl (.at_ (hcell _ i _ hv5) (by omega))) ?_
        refine tl_y rfl (y_len rfl) ?_
        refine tl_y rfl (y_gtr rfl rfl) ?_
        refine tl_nil (.then_normal ?_)
        refine .sub (F' := [(1, _), (2, _), (3, _), (4, _), (5, _), (6, _), (8, _), (9, _), (45, _)]) (.cons rfl (.cons rfl (.cons rfl (.cons rfl (.cons rfl (.cons rfl (.cons rfl (.cons rfl (.cons rfl .nil))))))))) ?_
        refine x_cond rfl (fun hc3 => ?_) (fun hc3 => ?_)
        ·
          refine x_seq (x_region ?_)
          refine tl_y rfl (y_loadAgg rfl rfl (.own inferInstance inferInstance)) ?_
          refine tl_e rfl (e_store rfl rfl (by rfl) (by rfl) inferInstance inferInstance inferInstance ?_)
          refine tl_y rfl (y_assign rfl) ?_
          refine tl_y rfl (y_assign rfl) ?_
          refine tl_y rfl (y_assign rfl) ?_
          refine tl_nil (.then_normal ?_)
          refine x_ret (.block_ret (.then_ret (.loop_ret (.block_ret (.then_ret (retRV (L' := L) (rv4 rfl (rc_cellAgg (by rfl) rfl (.own inferInstance inferInstance)) (rc_tmp rfl) (rc_tmp rfl) (rc_tmp rfl)) inferInstance (Le.refl _) ⟨rfl, rfl, t, false, _, _, _, _, _, _, rfl, fun h => by cases h⟩))))))
        ·
          refine x_skip (.block_normal (.then_normal ?_))
          refine x_region ?_
          refine tl_y rfl (y_move (v := .int _ _) rfl) ?_
          refine tl_y rfl (y_addI rfl rfl (by omega)) ?_
          refine tl_y rfl (y_assign (v := .int _ _) rfl) ?_
          refine tl_nil (.loop_next (m' := pw2 H - (i + 1)) (by omega) (F' := [(1, _), (2, _), (3, _), (4, _), (5, _), (6, _), (8, _), (9, _)]) (.cons rfl (.cons rfl (.cons rfl (.cons rfl (.cons rfl (.cons rfl (.cons rfl (.cons rfl .nil)))))))) ?_)
          exact ⟨i + 1, rfl, by omega, fun j hj => by
            by_cases hji : j = i
            · subst hji; omega
            · exact hs j (by omega), rfl, rfl, rfl, rfl⟩
      ·
        obtain rfl : i = pw2 H := by omega
        refine x_exit (.then_exit (.loop_exit (.block_exit (.then_normal ?_))))
        refine .sub (F' := [(1, _), (2, _), (6, _), (8, _)]) (.cons rfl (.cons rfl (.cons rfl (.cons rfl .nil)))) ?_
        refine x_seq ?_
        refine x_meet (I := fun F D M1 L1 => D = [] ∧ M = M1 ∧ DropTo L1 ((b2, .cells (List.toArray t.cells) 30 (0, 0)) :: L) ∧ F = [(2, .pointer (some ⟨b2, 0, none⟩)), (3, .slice (sl NA 0 nc 1) 16 nc), (4, .slice (sl (some ⟨g, o, none⟩) 0 wc 1) (pw2 H) wc), (5, .bool true)]) ?_ (fun Jd10 => ?_)
        ·
          rintro _ _ _ _ ⟨rfl, rfl, hdr, rfl⟩  -- slots [2, 3, 4, 5]
          refine .dropTo _ hdr ?_
          refine x_ret (retRV (L' := L) (rv4 rfl (rc_cellAgg (by rfl) rfl (.own inferInstance inferInstance)) (rc_tmp rfl) (rc_tmp rfl) (rc_tmp rfl)) inferInstance (Le.refl _) ⟨rfl, rfl, t, true, _, _, _, _, _, _, rfl, fun _ => ⟨H, name.take 16, wvs.take (pw2 H), keys.take (pw2 H), hok, hH, hH1, hH4, rfl, rfl, Bytes.take hname 16 hnl16, row_take h _ hwl, brows_take hw _, fun b hb => by
            obtain ⟨j, hj, rfl⟩ := List.mem_iff_getElem.1 hb
            rw [List.getElem_take]
            have := hs j (by rw [List.length_take] at hj; omega)
            rwa [List.getD_eq_getElem?_getD, List.getElem?_eq_getElem (by rw [List.length_take] at hj; omega)] at this⟩⟩)
        ·
          refine x_draw0 12 ([(b3, .cells (List.toArray t.cells) 30 (0, 0)), (b1, .cells (List.toArray [.int .u8 (code.toNat : Int), .slice NA nl nc, .slice (some ⟨g, o, none⟩) wl wc]) 25 (0, 0))]) Keeps.mem hmix rfl ?_
          refine to_y 0 rfl (by kernel_rfl) rfl (y_loadAgg rfl rfl (.own inferInstance inferInstance)) ?_
          refine to_p 1 rfl (by kernel_rfl) rfl (y_fieldAddr rfl) ?_
          refine to_y 2 rfl (by kernel_rfl) rfl (y_load rfl rfl (.own inferInstance inferInstance)) ?_
          refine to_p 3 rfl (by kernel_rfl) rfl (y_sliceH rfl rfl (by omega) (by omega)) ?_
          refine to_p 4 rfl (by kernel_rfl) rfl (y_fieldAddr rfl) ?_
          refine to_y 5 rfl (by kernel_rfl) rfl (y_load rfl rfl (.own inferInstance inferInstance)) ?_
          refine to_p 6 rfl (by kernel_rfl) rfl (y_move (v := .int _ _) rfl) ?_
          refine to_p 7 rfl (by kernel_rfl) rfl (y_sliceH rfl rfl (by omega) (by omega)) ?_
          refine to_e 8 rfl (by kernel_rfl) rfl (e_store rfl rfl (by rfl) (by rfl) inferInstance inferInstance inferInstance ?_)
          refine ⟨⟨(by first | exact Le.refl _ | assumption), Keeps.mem⟩, ?_⟩
          refine to_p 9 rfl (by kernel_rfl) rfl (y_assign (v := .slice _ _ _) rfl) ?_
          refine to_p 10 rfl (by kernel_rfl) rfl (y_assign (v := .slice _ _ _) rfl) ?_
          refine to_p 11 rfl (by kernel_rfl) rfl (y_assign rfl) ?_
          refine to_nil (by kernel_rfl) (.then_normal (.sub (F' := [(2, _), (3, _), (4, _), (5, _)]) (.cons rfl (.cons rfl (.cons rfl (.cons rfl .nil)))) (Jd10 _ _ _ _ ?_)))
          exact ⟨rfl, rfl, inferInstance, rfl⟩
theorem lsums_spec (t : TreeV) {H : Nat} (hH : t.h = (H : Int)) (p : Nat) (hp : p ≤ 4294967295) :
    Con Tryd.prog 14 #[.agg (List.toArray t.cells), .int .i64 (p : Int)] G M L (fun v M' L' => M = M' ∧ L = L' ∧ v = .int .i64 ((sumsN H p : Nat) : Int)) noPanic := by
  refine enter (args := [_, _]) (fn := Tryd.f14) ⟨Tryd.func14, rfl, by kernel_rfl, by kernel_rfl⟩ 16 rfl ?_
  refine x_seq (x_region ?_)
  refine tl_e rfl (e_box rfl (fun b1 => ?_))
  refine tl_y rfl (y_assign rfl) ?_
  refine tl_nil (.then_normal ?_)
  refine x_seq (x_seq (x_region ?_))
  refine tl_y rfl (y_move (v := .int _ _) rfl) ?_
  refine tl_y rfl (y_eql rfl rfl) ?_
  refine tl_nil (.then_normal ?_)
  refine x_cond rfl (fun hc1 => ?_) (fun hc1 => ?_)
  ·
    refine x_seq (x_region ?_)
    refine tl_y rfl (y_fieldAddr rfl) ?_
    refine tl_y rfl (y_load rfl rfl (.own inferInstance inferInstance)) ?_
    refine tl_y rfl (y_assign (v := .int _ _) rfl) ?_
    refine tl_nil (.then_normal ?_)
    refine .sub (F' := [(4, _)]) (.cons rfl .nil) ?_
    refine x_ret (.then_ret (.dropTo L inferInstance (ret1 rfl rfl (Le.refl _) ⟨rfl, rfl, by rw [hH, sumsN, if_pos (show p = 0 by omega)]⟩)))
  ·
    obtain ⟨z, hz⟩ : ∃ z : UInt32, z.toNat = p - 1 := ⟨UInt32.ofNat (p - 1), by rw [UInt32.toNat_ofNat', Nat.mod_eq_of_lt (by omega)]⟩
    refine x_skip (.then_normal ?_)
    refine .sub (F' := [(1, _), (2, _)]) (.cons rfl (.cons rfl .nil)) ?_
    refine x_seq ?_
    refine x_draw 8 hmix rfl ?_
    refine to_p 0 rfl (by kernel_rfl) rfl (y_fieldAddr rfl) ?_
    refine to_y 1 rfl (by kernel_rfl) rfl (y_load rfl rfl (.own inferInstance inferInstance)) ?_
    refine to_p 2 rfl (by kernel_rfl) rfl (y_move (v := .int _ _) rfl) ?_
    refine to_p 3 rfl (by kernel_rfl) rfl (y_subI rfl rfl (by omega)) ?_
    refine to_p 4 rfl (by kernel_rfl) rfl (y_convE (b := ((z.toNat : Nat) : Int)) rfl (by rw [wrapU32]; omega)) ?_
    refine to_e 5 rfl (by kernel_rfl) rfl (e_call' rfl (RChanges_spec z) ?_)
    rintro _ _ _ _ ⟨rfl, rfl, rfl⟩
    refine ⟨⟨(by first | exact Le.refl _ | assumption), Keeps.mem⟩, ?_⟩
    refine to_p 6 rfl (by kernel_rfl) rfl (y_min rfl rfl) ?_
    refine to_p 7 rfl (by kernel_rfl) rfl (y_assign (v := .int _ _) rfl) ?_
    refine to_nil (by kernel_rfl) (.then_normal ?_)
    refine .sub (F' := [(4, _)]) (.cons rfl .nil) ?_
    refine x_ret (.dropTo L inferInstance (ret1 rfl rfl (Le.refl _) ⟨rfl, rfl, by
      rw [hH, hz, show (if ((chg (p - 1) : Nat) : Int) < (H : Int) then ((chg (p - 1) : Nat) : Int) else (H : Int)) = ((sumsN H p : Nat) : Int) by rw [sumsN, if_neg (show ¬ p = 0 by omega)]; split <;> omega]⟩))
theorem f24 : ∃ t : TreeV, treeV 4026531842 = t ∧ t.h = 2 ∧ treeE t.code = 0 ∧ treeV t.code = t := by
  refine ⟨treeV 4026531842, rfl, ?_⟩
  decide +kernel
theorem awake24_spec (hg : WkG M) : Con Tryd.prog 11 #[] G M L (fun v M' L' => L = L' ∧ v = .bool true) noPanic := by
  obtain ⟨t, et, th, te, tv⟩ := f24
  have hok : okS t 16 := ⟨te, tv, rfl⟩
  have hH : t.h = ((2 : Nat) : Int) := th
  have hokM : okM t 16 4 := ⟨hok, by omega, by rw [th]; decide⟩
  have hno : ¬ okM t 0 4 := fun h => by have := h.1.2.2; omega
  refine enter (args := []) (fn := Tryd.f11) ⟨Tryd.func11, rfl, by kernel_rfl, by kernel_rfl⟩ 95 rfl ?_
  refine x_seq (x_region ?_)
  refine tl_y rfl (y_assign rfl) ?_
  refine tl_nil (.then_normal ?_)
  refine x_seq (x_region ?_)
  refine tl_e rfl (e_call' rfl (RTree_spec 4026531842) ?_)
  rintro _ _ _ _ ⟨rfl, rfl, rfl⟩
  rw [et]
  refine tl_y rfl (y_move (v := .tuple _) rfl) ?_
  refine tl_y rfl (y_extract rfl) ?_
  refine tl_y rfl (y_extract rfl) ?_
  refine tl_e rfl (e_alloc (fun b1 => ?_))
  refine tl_e rfl (e_store rfl rfl (by rfl) (by rfl) inferInstance inferInstance inferInstance ?_)
  refine tl_y rfl (y_assign (v := .int _ _) rfl) ?_
  refine tl_nil (.then_normal ?_)
  refine .sub (F' := [(1, _)]) (.cons rfl .nil) ?_
  refine x_seq (x_region ?_)
  refine tl_e rfl (e_buildSlice rfl (by decide) (fun b3 => ?_))
  refine .pub b3 inferInstance (fun M2 hM2 hb3 => ?_)
  have hk0 : Bytes M2 (some ⟨b3, 0, none⟩) 1 1 [1] := Row.whole hb3 rfl (by omega)
  refine tl_e rfl (e_buildSlice rfl (by decide) (fun b4 => ?_))
  refine .pub b4 inferInstance (fun M3 hM3 hb4 => ?_)
  have hk1 : Bytes M3 (some ⟨b4, 0, none⟩) 1 1 [2] := Row.whole hb4 rfl (by omega)
  refine tl_e rfl (e_buildSlice rfl (by decide) (fun b5 => ?_))
  refine .pub b5 inferInstance (fun M4 hM4 hb5 => ?_)
  have hk2 : Bytes M4 (some ⟨b5, 0, none⟩) 1 1 [3] := Row.whole hb5 rfl (by omega)
  refine tl_e rfl (e_buildSlice rfl (by decide) (fun b6 => ?_))
  refine .pub b6 inferInstance (fun M5 hM5 hb6 => ?_)
  have hk3 : Bytes M5 (some ⟨b6, 0, none⟩) 1 1 [4] := Row.whole hb6 rfl (by omega)
  refine tl_e rfl (e_buildSlice rfl (by decide) (fun b7 => ?_))
  refine .pub b7 inferInstance (fun M6 hM6 hb7 => ?_)
  have hrow : Row M6 1 (some ⟨b7, 0, none⟩) 4 4 _ := Row.whole hb7 rfl (by omega)
  have hB : BRows M6 _ [[1], [2], [3], [4]] := .cons (hk0.mono (hM3.trans (hM4.trans (hM5.trans hM6)))) (.cons (hk1.mono (hM4.trans (hM5.trans hM6))) (.cons (hk2.mono (hM5.trans hM6)) (.cons (hk3.mono hM6) .nil)))
  have hks : ∀ b ∈ ([[1], [2], [3], [4]] : List (List UInt8)), b.length ≤ 1000000000000 := by decide
  have hm := hM2.trans (hM3.trans (hM4.trans (hM5.trans hM6)))
  refine tl_y rfl (y_assign (v := .slice _ _ _) rfl) ?_
  refine tl_nil (.then_normal ?_)
  refine .sub (F' := [(1, _), (3, _)]) (.cons rfl (.cons rfl .nil)) ?_
  refine x_seq ?_
  have hd : Le M6 M6 := Le.refl _
  refine x_draw 9 hmix rfl ?_
  refine to_y 0 rfl (by kernel_rfl) rfl (y_loadAgg rfl rfl (.own inferInstance inferInstance)) ?_
  refine to_p 2 rfl (by kernel_rfl) rfl (y_move (v := .slice _ _ _) rfl) ?_
  refine to_e 1 rfl (by kernel_rfl) rfl (e_make1 rfl rfl (by omega) (by omega) (by omega) (by omega) (fun bn => ?_))
  refine ⟨⟨hd, Keeps.mem⟩, ?_⟩
  refine .pub bn inferInstance (fun M1 hM1 hbn => ?_)
  have hn1 : Bytes M1 (some ⟨bn, 0, none⟩) 16 16 (List.replicate 16 0) := Bytes.zeros hbn (by omega)
  replace hd := hd.trans hM1
  refine to_e 3 rfl (by kernel_rfl) rfl (e_call' rfl (WNew_spec ((hg.mono hm).mono hd) t hn1 (Row.in_ (hrow.mono hd)) (brows_in (hB.mono hd)) (by omega) hks) ?_)
  rintro _ M7 _ hM7 h7
  rw [if_pos hokM] at h7
  obtain ⟨w, E7, rfl, hW7, rfl⟩ := h7
  rw [hH, Int.toNat_natCast] at hW7
  replace hd := hd.trans hM7
  refine ⟨⟨(by first | exact Le.refl _ | assumption), Keeps.mem⟩, ?_⟩
  refine to_p 4 rfl (by kernel_rfl) rfl (y_move (v := .tuple _) rfl) ?_
  refine to_p 5 rfl (by kernel_rfl) rfl (y_extract rfl) ?_
  refine to_p 6 rfl (by kernel_rfl) rfl (y_extract rfl) ?_
  refine to_p 7 rfl (by kernel_rfl) rfl (y_assign (v := .pointer _) rfl) ?_
  refine to_p 8 rfl (by kernel_rfl) rfl (y_assign (v := .int _ _) rfl) ?_
  refine to_nil (by kernel_rfl) (.then_normal ?_)
  refine .sub (F' := [(1, _), (3, _), (4, _), (5, _)]) (.cons rfl (.cons rfl (.cons rfl (.cons rfl .nil)))) ?_
  refine x_seq (x_region ?_)
  refine tl_y rfl (y_loadAgg rfl rfl (.own inferInstance inferInstance)) ?_
  refine tl_y rfl (y_move (v := .slice _ _ _) rfl) ?_
  refine tl_e rfl (e_call' rfl (WNew_spec ((hg.mono hm).mono hd) t (name := []) (Row.nil _ _) (Row.in_ (hrow.mono hd)) (brows_in (hB.mono hd)) (by omega) hks) ?_)
  rintro _ M8 _ hM8 h8
  rw [if_neg hno] at h8
  obtain ⟨rfl, rfl⟩ := h8
  replace hd := hd.trans hM8
  refine tl_y rfl (y_move (v := .tuple _) rfl) ?_
  refine tl_y rfl (y_extract rfl) ?_
  refine tl_y rfl (y_extract rfl) ?_
  refine tl_y rfl (y_assign (v := .pointer _) rfl) ?_
  refine tl_y rfl (y_assign (v := .int _ _) rfl) ?_
  refine tl_nil (.then_normal ?_)
  refine .sub (F' := [(4, _), (5, _), (7, _)]) (.cons rfl (.cons rfl (.cons rfl .nil))) ?_
  refine x_seq (x_seq (x_region ?_))
  refine tl_y rfl (y_move (v := .pointer _) rfl) ?_
  refine tl_y rfl (y_eqNilPtr rfl rfl) ?_
  refine tl_y rfl (y_move (v := .bool _) rfl) ?_
  refine tl_set (s := 39) (u := .bool false) rfl (rfl) ?_
  refine tl_y rfl (y_move (v := .int _ _) rfl) ?_
  refine tl_y rfl (y_neq rfl rfl) ?_
  refine tl_y rfl (y_pickF rfl rfl) ?_
  refine tl_nil (.then_normal ?_)
  refine .sub (F' := [(4, _), (7, _), (42, _)]) (.cons rfl (.cons rfl (.cons rfl .nil))) ?_
  refine x_false rfl (rfl) ?_
  refine x_skip (.then_normal ?_)
  refine x_seq (x_region ?_)
  refine tl_y rfl (y_move (v := .pointer _) rfl) ?_
  refine tl_e rfl (e_call' rfl (Next_spec ((hg.mono hm).mono hd) hH (by omega) hks (by decide) (hW7.mono hM8)) ?_)
  rintro _ M9 _ hM9 h9
  rw [if_pos (by decide)] at h9
  obtain ⟨A9, c9, vs9, E9, F9, E10, rfl, _, _, hW9, rfl⟩ := h9
  replace hd := hd.trans hM9
  refine .dropTo (E10 ++ ((b1, .cells (List.toArray t.cells) 30 (0, 0)) :: L)) inferInstance ?_
  refine tl_y rfl (y_move (v := .tuple _) rfl) ?_
  refine tl_y rfl (y_extract rfl) ?_
  refine tl_y rfl (y_extract rfl) ?_
  refine tl_y rfl (y_extract rfl) ?_
  refine tl_y rfl (y_assign (v := .int _ _) rfl) ?_
  refine tl_y rfl (y_assign (v := .slice _ _ _) rfl) ?_
  refine tl_y rfl (y_assign (v := .bool _) rfl) ?_
  refine tl_nil (.then_normal ?_)
  refine .sub (F' := [(4, _), (7, _), (8, _), (9, _), (10, _)]) (.cons rfl (.cons rfl (.cons rfl (.cons rfl (.cons rfl .nil))))) ?_
  refine x_seq (x_region ?_)
  refine tl_y rfl (y_move (v := .pointer _) rfl) ?_
  refine tl_e rfl (e_call' rfl (Skip_spec ((hg.mono hm).mono hd) hH (by omega) hks (by decide) hW9 2 (by omega)) ?_)
  rintro _ M11 _ hM11 ⟨rfl, E11, rfl, hW11⟩
  rw [show (0 + 1 + min (2 : Int).toNat (pw2 2 - (0 + 1))) = 3 from rfl] at hW11
  rw [show ((min (2 : Int).toNat (pw2 2 - (0 + 1)) : Nat) : Int) = 2 from rfl]
  replace hd := hd.trans hM11
  refine tl_y rfl (y_assign (v := .int _ _) rfl) ?_
  refine tl_nil (.then_normal ?_)
  refine x_seq (x_region ?_)
  refine tl_y rfl (y_move (v := .pointer _) rfl) ?_
  refine tl_e rfl (e_call' rfl (Next_spec ((hg.mono hm).mono hd) hH (by omega) hks (by decide) hW11) ?_)
  rintro _ M12 _ hM12 h12
  rw [if_pos (by decide)] at h12
  obtain ⟨A12, c12, vs12, E12, F12, E13, rfl, _, _, hW12, rfl⟩ := h12
  replace hd := hd.trans hM12
  refine .dropTo (E13 ++ ((b1, .cells (List.toArray t.cells) 30 (0, 0)) :: L)) inferInstance ?_
  refine tl_y rfl (y_move (v := .tuple _) rfl) ?_
  refine tl_y rfl (y_extract rfl) ?_
  refine tl_y rfl (y_extract rfl) ?_
  refine tl_y rfl (y_extract rfl) ?_
  refine tl_y rfl (y_assign (v := .int _ _) rfl) ?_
  refine tl_y rfl (y_assign (v := .slice _ _ _) rfl) ?_
  refine tl_y rfl (y_assign (v := .bool _) rfl) ?_
  refine tl_nil (.then_normal ?_)
  refine .sub (F' := [(4, _), (7, _), (8, _), (9, _), (10, _), (11, _), (12, _), (14, _)]) (.cons rfl (.cons rfl (.cons rfl (.cons rfl (.cons rfl (.cons rfl (.cons rfl (.cons rfl .nil)))))))) ?_
  refine x_seq (x_region ?_)
  refine tl_y rfl (y_move (v := .int _ _) rfl) ?_
  refine tl_y rfl (y_eql rfl rfl) ?_
  refine tl_y rfl (y_move (v := .bool _) rfl) ?_
  refine tl_set (s := 59) (u := .bool true) rfl (rfl) ?_
  refine tl_y rfl (y_move (v := .int _ _) rfl) ?_
  refine tl_y rfl (y_eql rfl rfl) ?_
  refine tl_y rfl (y_pickT rfl rfl) ?_
  refine tl_y rfl (y_move (v := .bool _) rfl) ?_
  refine tl_set (s := 63) (u := .bool true) rfl (rfl) ?_
  refine tl_y rfl (y_move (v := .bool _) rfl) ?_
  refine tl_y rfl (y_pickT rfl rfl) ?_
  refine tl_y rfl (y_move (v := .bool _) rfl) ?_
  refine tl_set (s := 66) (u := .bool true) rfl (rfl) ?_
  refine tl_y rfl (y_move (v := .slice _ _ _) rfl) ?_
  refine tl_y rfl (y_len rfl) ?_
  refine tl_y rfl (y_eql rfl rfl) ?_
  refine tl_y rfl (y_pickT rfl rfl) ?_
  refine tl_y rfl (y_move (v := .bool _) rfl) ?_
  refine tl_set (s := 71) (u := .bool true) rfl (rfl) ?_
  refine tl_y rfl (y_move (v := .int _ _) rfl) ?_
  refine tl_y rfl (y_eql rfl rfl) ?_
  refine tl_y rfl (y_pickT rfl rfl) ?_
  refine tl_y rfl (y_move (v := .bool _) rfl) ?_
  refine tl_set (s := 75) (u := .bool true) rfl (rfl) ?_
  refine tl_y rfl (y_move (v := .int _ _) rfl) ?_
  refine tl_y rfl (y_eql rfl rfl) ?_
  refine tl_y rfl (y_pickT rfl rfl) ?_
  refine tl_y rfl (y_move (v := .bool _) rfl) ?_
  refine tl_set (s := 79) (u := .bool true) rfl (rfl) ?_
  refine tl_y rfl (y_move (v := .bool _) rfl) ?_
  refine tl_y rfl (y_pickT rfl rfl) ?_
  refine tl_y rfl (y_move (v := .bool _) rfl) ?_
  refine tl_set (s := 82) (u := .bool true) rfl (rfl) ?_
  refine tl_y rfl (y_move (v := .pointer _) rfl) ?_
  refine tl_e rfl (e_call' rfl (Made_spec hW12) ?_)
  rintro _ _ _ _ ⟨rfl, rfl, rfl⟩
  rw [show madeN 2 (3 + 1) = 6 by decide +kernel]
  refine tl_y rfl (y_eql rfl rfl) ?_
  refine tl_y rfl (y_pickT rfl rfl) ?_
  refine tl_y rfl (y_move (v := .bool _) rfl) ?_
  refine tl_set (s := 87) (u := .bool true) rfl (rfl) ?_
  refine tl_e rfl (e_call' rfl (Changes_spec ((hg.mono hm).mono hd).bit 3) ?_)
  rintro _ _ _ _ ⟨rfl, rfl, rfl⟩
  rw [show chg (3 : UInt32).toNat = 3 by decide +kernel]
  refine tl_y rfl (y_eql rfl rfl) ?_
  refine tl_y rfl (y_pickT rfl rfl) ?_
  refine tl_y rfl (y_move (v := .bool _) rfl) ?_
  refine tl_set (s := 91) (u := .bool true) rfl (rfl) ?_
  refine tl_e rfl (e_call' rfl (Changes_spec ((hg.mono hm).mono hd).bit 4) ?_)
  rintro _ _ _ _ ⟨rfl, rfl, rfl⟩
  rw [show chg (4 : UInt32).toNat = 1 by decide +kernel]
  refine tl_y rfl (y_eql rfl rfl) ?_
  refine tl_y rfl (y_pickT rfl rfl) ?_
  refine tl_y rfl (y_assign (v := .bool _) rfl) ?_
  refine tl_nil (.then_normal ?_)
  refine .sub (F' := [(0, _)]) (.cons rfl .nil) ?_
  refine x_ret (.dropTo L inferInstance (ret1 rfl rfl (hm.trans hd) ⟨rfl, rfl⟩))
end
end Go.Proofs.YtbjnjedfoiedeaaDoor
