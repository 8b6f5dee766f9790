/-
Contracts of functions, each proved by a walk through its code.
-/
import Derived.Test.YtbjnjedfoiedeaaGreatDoorDigPureEtc
set_option linter.unusedVariables false
set_option linter.unusedSimpArgs false
set_option linter.constructorNameAsVariable false
namespace Go.Proofs.YtbjnjedfoiedeaaGreatDoor
open Go Go.Eng
section
variable {G : World} {M : Mem} {L : Own} {NA SA : Option Addr} {nl nc sl sc : Nat} {name sec : List UInt8}
theorem oSecret_spec (hg : ChG M) (o : OtsV) (hname : Bytes M NA nl nc name) (hsec : Bytes M SA sl sc sec) (q : UInt32) (d : Nat) (hd : d ≤ 65535) :
    Con Tryz.prog 14 #[.agg (List.toArray o.cells), .agg (List.toArray (seedC NA nl nc SA sl sc)), .int .u32 (q.toNat : Int), .int .u16 (d : Int)] G M L (fun v M' L' => L = L' ∧ ∃ A m c, v = .slice A m c ∧ Bytes M' A m c (if okY o nl sl then hidB o name sec q.toNat d else [])) noPanic := by
  refine enter (args := [_, _, _, _]) (fn := Tryz.f14) ⟨Tryz.func14, rfl, by kernel_rfl, by kernel_rfl⟩ 18 rfl ?_
  refine x_seq (x_region ?_)
  refine tl_e rfl (e_box rfl (fun b1 => ?_))
  refine tl_e rfl (e_box rfl (fun b2 => ?_))
  refine tl_y rfl (y_assign rfl) ?_
  refine tl_nil (.then_normal ?_)
  refine x_seq (x_seq (x_region ?_))
  refine tl_y rfl (y_loadAgg rfl rfl (.own inferInstance inferInstance)) ?_
  refine tl_y rfl (y_loadAgg rfl rfl (.own inferInstance inferInstance)) ?_
  refine tl_e rfl (e_call' rfl (oMay_spec hg.set o) ?_)
  rintro _ M1 _ hM1 ⟨rfl, rfl⟩
  refine tl_y rfl (y_notd rfl) ?_
  refine tl_nil (.then_normal ?_)
  refine .sub (F' := [(2, _), (3, _), (4, _), (5, _), (12, _)]) (.cons rfl (.cons rfl (.cons rfl (.cons rfl (.cons rfl .nil))))) ?_
  refine x_cond rfl (fun hc1 => ?_) (fun hc1 => ?_)
  ·
    refine x_seq (x_region ?_)
    refine tl_y rfl (y_assign rfl) ?_
    refine tl_nil (.then_normal ?_)
    refine .sub (F' := [(8, _)]) (.cons rfl .nil) ?_
    refine x_ret (.then_ret (.dropTo L inferInstance (ret1 rfl rfl hM1 ⟨rfl, _, _, _, rfl, by rw [if_neg hc1]; exact Row.nil _ _⟩)))
  ·
    have hok : okY o nl sl := Classical.not_not.1 hc1
    obtain ⟨n, w, p, ho⟩ := okO_facts hok.1
    have hn32 := ho.n32
    have hn := ho.hn
    have hsl := hok.2.2
    have hnl := hok.2.1
    refine x_skip (.then_normal ?_)
    refine x_seq (x_region ?_)
    refine tl_y rfl (y_loadAgg rfl rfl (.own inferInstance inferInstance)) ?_
    refine tl_y rfl (y_loadAgg rfl rfl (.own inferInstance inferInstance)) ?_
    refine tl_y rfl (y_move (v := .int _ _) rfl) ?_
    refine tl_y rfl (y_move (v := .int _ _) rfl) ?_
    refine tl_e rfl (e_call' rfl (ohid_spec (hg.mono hM1) o (hname.mono hM1) (hsec.mono hM1) (by omega) (by omega) q d hd) ?_)
    rintro _ M2 _ hM2 ⟨rfl, A2, m2, c2, rfl, hA2⟩
    refine tl_y rfl (y_assign (v := .slice _ _ _) rfl) ?_
    refine tl_nil (.then_normal ?_)
    refine .sub (F' := [(8, _)]) (.cons rfl .nil) ?_
    refine x_ret (.dropTo L inferInstance (ret1 rfl rfl (hM1.trans hM2) ⟨rfl, _, _, _, rfl, by rw [if_pos hok]; exact hA2⟩))
theorem oall_spec (o : OtsV) {p : Nat} (hp : o.p = (p : Int)) (hp5 : p ≤ 1000) {fid : FuncId} {cap : List Value} {rows : Nat → List UInt8} (hl : ∀ i, (rows i).length ≤ 32)
    (hdo : ∀ (i : Nat) (M1 : Mem) (X : Own), i < p → Le M M1 → (∀ e ∈ L, e ∈ X) → Con Tryz.prog fid (([] : List Value) ++ [Value.int .i64 (i : Int)] ++ cap).toArray G M1 X (fun v M' L' => X = L' ∧ ∃ A m c, v = .slice A m c ∧ Bytes M' A m c (rows i)) noPanic) :
    Con Tryz.prog 26 #[.agg (List.toArray o.cells), .func (.func fid) (List.toArray []) cap.toArray] G M L (fun v M' L' => L = L' ∧ ∃ A m c, v = .slice A m c ∧ Bytes M' A m c (catR rows p)) noPanic := by
  refine enter (args := [_, _]) (fn := Tryz.f26) ⟨Tryz.func26, rfl, by kernel_rfl, by kernel_rfl⟩ 19 rfl ?_
  refine x_seq (x_region ?_)
  refine tl_e rfl (e_box rfl (fun b1 => ?_))
  refine tl_y rfl (y_assign rfl) ?_
  refine tl_nil (.then_normal ?_)
  refine x_seq (x_region ?_)
  refine tl_y rfl (y_assign rfl) ?_
  refine tl_nil (.then_normal ?_)
  refine x_seq (x_seq (x_region ?_))
  refine tl_y rfl (y_fieldAddr rfl) ?_
  refine tl_y rfl (y_load (v := .int .i64 (p : Int)) rfl rfl (by rw [← hp]; exact .own inferInstance inferInstance)) ?_
  refine tl_y rfl (y_move rfl) ?_
  refine tl_nil (.then_normal ?_)
  refine .sub (F' := [(1, _), (5, _), (8, _), (9, _)]) (.cons rfl (.cons rfl (.cons rfl (.cons rfl .nil)))) ?_
  refine x_block ?_
  refine x_loop (I := fun m' F D M1 L1 => ∃ (i : Nat) (A : Option Addr) (m c : Nat) (E : Own), m' = p - i ∧ i ≤ p ∧ Le M M1 ∧ m = (catR rows i).length ∧ OwnRow 5 1 A m c ((catR rows i).map bv) E ∧ D = [] ∧ L1 = E ++ ((b1, .cells (List.toArray o.cells) 31 (0, 0)) :: L) ∧ F = [(1, .func (.func fid) (List.toArray []) cap.toArray), (5, .slice A m c), (8, .int .i64 (p : Int)), (9, .int .i64 (i : Int))]) (p) (F0 := [(1, _), (5, _), (8, _), (9, _)]) ?_ (.cons rfl (.cons rfl (.cons rfl (.cons rfl .nil)))) ?_  -- slots [1, 5, 8, 9], written [5, 9]
  · exact ⟨0, none, 0, 0, [], rfl, by omega, Le.refl _, rfl, .nil, rfl, rfl, rfl⟩
  rintro m _ _ M1 _ ⟨i, A, m, c, E, rfl, hi, hM1, hm, hE, rfl, rfl, rfl⟩
  refine x_seq (x_region ?_)
  refine tl_y rfl (y_lss rfl rfl) ?_
  refine tl_nil (.then_normal ?_)
  refine x_seq ?_
  refine x_cond rfl (fun hc1 => ?_) (fun hc1 => ?_)
  ·
    have hip : i < p := by omega
    have hle := catR_le hl i
    have hli := hl i
    refine x_skip (.then_normal ?_)
    refine x_seq ?_
    refine x_block ?_
    refine x_seq (x_region ?_)
    refine tl_y rfl (y_move (v := .int _ _) rfl) ?_
    refine tl_y rfl (y_assign (v := .int _ _) rfl) ?_
    refine tl_nil (.then_normal ?_)
    refine x_region ?_
    refine tl_y rfl (y_move (v := .slice _ _ _) rfl) ?_
    refine tl_y rfl (y_move (v := .func _ _ _) rfl) ?_
    refine tl_y rfl (y_move (v := .int _ _) rfl) ?_
    refine tl_e rfl (e_callv rfl rfl (hdo i M1 _ hip hM1 Keeps.mem) (fun _ _ _ _ h => h.elim) ?_)
    rintro _ M2 _ hM2 ⟨rfl, A2, m2, c2, rfl, hA2⟩
    have hm2 := hA2.size
    refine tl_e rfl (e_append (by decide) rfl rfl hE (.row hA2) (all_one_bv _) (by omega) (by omega) (fun A7 c7 E7 hE7 => ?_))
    rw [← List.map_append, ← catR_succ] at hE7
    refine tl_y rfl (y_assign (v := .slice _ _ _) rfl) ?_
    refine tl_nil (.block_normal (.then_normal ?_))
    refine .sub (F' := [(1, _), (5, _), (8, _), (9, _)]) (.cons rfl (.cons rfl (.cons rfl (.cons rfl .nil)))) ?_
    refine x_region ?_
    refine tl_y rfl (y_addI rfl rfl (by omega)) ?_
    refine tl_y rfl (y_move (v := .int _ _) rfl) ?_
    refine tl_nil (.loop_next (m' := p - (i + 1)) (by omega) (F' := [(1, _), (5, _), (8, _), (9, _)]) (.cons rfl (.cons rfl (.cons rfl (.cons rfl .nil)))) ?_)
    exact ⟨i + 1, A7, m + m2, c7, E7, rfl, by omega, hM1.trans hM2, by rw [catR_succ, List.length_append]; omega, hE7, rfl, rfl, rfl⟩
  ·
    obtain rfl : i = p := by omega
    refine .pubRow hE (fun M4 hM4 hrow => ?_)
    refine x_exit (.then_exit (.loop_exit (.block_exit (.then_normal ?_))))
    refine .sub (F' := [(5, _)]) (.cons rfl .nil) ?_
    refine x_seq (x_region ?_)
    refine tl_y rfl (y_move (v := .slice _ _ _) rfl) ?_
    refine tl_y rfl (y_assign (v := .slice _ _ _) rfl) ?_
    refine tl_nil (.then_normal ?_)
    refine x_ret (.dropTo L inferInstance (ret1 rfl rfl (hM1.trans hM4) ⟨rfl, _, _, _, rfl, hrow⟩))
theorem oKey1_spec (hg : ChG M) (o : OtsV) {n w p : Nat} (ho : OF o n w p) (hname : Bytes M NA nl nc name) (hsec : Bytes M SA sl sc sec) (hnl : nl ≤ 1000000) (hsl : sl ≤ 1000000) (q : UInt32) (i : Nat) (hi : i ≤ 65535) {bo bs bq : Nat}
    [i1 : Has L bo (.cells (List.toArray o.cells) 31 (0, 0))] [i2 : Has L bs (.cells (List.toArray (seedC NA nl nc SA sl sc)) 41 (0, 0))] [i3 : Has L bq (.cells (List.toArray [.int .u32 (q.toNat : Int)]) 23 (0, 0))] :
    Con Tryz.prog 40 #[.int .i64 (i : Int), .pointer (some ⟨bo, 0, none⟩), .pointer (some ⟨bs, 0, none⟩), .pointer (some ⟨bq, 0, none⟩)] G M L (fun v M' L' => L = L' ∧ ∃ A m c, v = .slice A m c ∧ Bytes M' A m c (keyR o name sec q.toNat i)) noPanic := by
  refine enter (args := [_, _, _, _]) (fn := Tryz.f40) ⟨Tryz.func40, rfl, by kernel_rfl, by kernel_rfl⟩ 20 rfl ?_
  refine x_seq (x_region ?_)
  refine tl_y rfl (y_assign rfl) ?_
  refine tl_nil (.then_normal ?_)
  refine x_seq ?_
  have he : Le M M := Le.refl _
  refine x_draw 15 hmix rfl ?_
  refine to_y 0 rfl (by kernel_rfl) rfl (y_loadAgg rfl rfl (.own inferInstance inferInstance)) ?_
  refine to_p 1 rfl (by kernel_rfl) rfl (y_fieldAddr rfl) ?_
  refine to_y 2 rfl (by kernel_rfl) rfl (y_load rfl rfl (.own inferInstance inferInstance)) ?_
  refine to_y 3 rfl (by kernel_rfl) rfl (y_load rfl rfl (.own inferInstance inferInstance)) ?_
  refine to_p 4 rfl (by kernel_rfl) rfl (y_move (v := .int _ _) rfl) ?_
  refine to_y 5 rfl (by kernel_rfl) rfl (y_loadAgg rfl rfl (.own inferInstance inferInstance)) ?_
  refine to_y 7 rfl (by kernel_rfl) rfl (y_loadAgg rfl rfl (.own inferInstance inferInstance)) ?_
  refine to_y 8 rfl (by kernel_rfl) rfl (y_loadAgg rfl rfl (.own inferInstance inferInstance)) ?_
  refine to_y 9 rfl (by kernel_rfl) rfl (y_load rfl rfl (.own inferInstance inferInstance)) ?_
  refine to_p 10 rfl (by kernel_rfl) rfl (y_move (v := .int _ _) rfl) ?_
  refine to_p 11 rfl (by kernel_rfl) rfl (y_convE (b := (i : Int)) rfl (by rw [wrapU16]; omega)) ?_
  refine to_e 6 rfl (by kernel_rfl) rfl (e_call' rfl (otop_spec o ho) ?_)
  rintro _ _ _ _ ⟨rfl, rfl, rfl⟩
  refine ⟨⟨(by first | exact Le.refl _ | assumption), Keeps.mem⟩, ?_⟩
  refine to_e 12 rfl (by kernel_rfl) rfl (e_call' rfl (ohid_spec hg o hname hsec hnl hsl q i hi) ?_)
  rintro _ M2 _ hM2 ⟨rfl, A2, m2, c2, rfl, hA2⟩
  replace he := he.trans hM2
  refine ⟨⟨(by first | exact Le.refl _ | assumption), Keeps.mem⟩, ?_⟩
  refine to_e 13 rfl (by kernel_rfl) rfl (e_call' rfl (Up_spec' (hg.mono he).sha (hg.mono he).kec (hg.mono he).set o (hname.mono he) hA2 q i 0 (topN o)) ?_)
  rintro _ M3 _ hM3 ⟨rfl, A3, m3, c3, rfl, hA3⟩
  replace he := he.trans hM3
  refine ⟨⟨(by first | exact Le.refl _ | assumption), Keeps.mem⟩, ?_⟩
  refine to_p 14 rfl (by kernel_rfl) rfl (y_assign (v := .slice _ _ _) rfl) ?_
  refine to_nil (by kernel_rfl) (.then_normal ?_)
  refine .sub (F' := [(5, _)]) (.cons rfl .nil) ?_
  refine x_ret (ret1 rfl rfl he ⟨rfl, _, _, _, rfl, hA3⟩)
theorem oKey_spec (hg : ChG M) (o : OtsV) (hname : Bytes M NA nl nc name) (hsec : Bytes M SA sl sc sec) (q : UInt32) :
    Con Tryz.prog 16 #[.agg (List.toArray o.cells), .agg (List.toArray (seedC NA nl nc SA sl sc)), .int .u32 (q.toNat : Int)] G M L (fun v M' L' => L = L' ∧ ∃ A m c, v = .slice A m c ∧ Bytes M' A m c (if okY o nl sl then keyB o name sec q.toNat else [])) noPanic := by
  refine enter (args := [_, _, _]) (fn := Tryz.f16) ⟨Tryz.func16, rfl, by kernel_rfl, by kernel_rfl⟩ 25 rfl ?_
  refine x_seq (x_region ?_)
  refine tl_e rfl (e_box rfl (fun b1 => ?_))
  refine tl_e rfl (e_box rfl (fun b2 => ?_))
  refine tl_e rfl (e_box rfl (fun b3 => ?_))
  refine tl_y rfl (y_assign rfl) ?_
  refine tl_nil (.then_normal ?_)
  refine .sub (F' := [(3, _), (4, _), (5, _)]) (.cons rfl (.cons rfl (.cons rfl .nil))) ?_
  refine x_seq (x_seq (x_region ?_))
  refine tl_y rfl (y_loadAgg rfl rfl (.own inferInstance inferInstance)) ?_
  refine tl_y rfl (y_loadAgg rfl rfl (.own inferInstance inferInstance)) ?_
  refine tl_e rfl (e_call' rfl (oMay_spec hg.set o) ?_)
  rintro _ M1 _ hM1 ⟨rfl, rfl⟩
  refine tl_y rfl (y_notd rfl) ?_
  refine tl_nil (.then_normal ?_)
  refine x_cond rfl (fun hc1 => ?_) (fun hc1 => ?_)
  ·
    refine x_seq (x_region ?_)
    refine tl_y rfl (y_assign rfl) ?_
    refine tl_nil (.then_normal ?_)
    refine .sub (F' := [(6, _)]) (.cons rfl .nil) ?_
    refine x_ret (.then_ret (.dropTo L inferInstance (ret1 rfl rfl hM1 ⟨rfl, _, _, _, rfl, by rw [if_neg hc1]; exact Row.nil _ _⟩)))
  ·
    have hok : okY o nl sl := Classical.not_not.1 hc1
    obtain ⟨n, w, p, ho⟩ := okO_facts hok.1
    have hn32 := ho.n32
    have hn := ho.hn
    have hsl := hok.2.2
    have hnl := hok.2.1
    have hp2 := ho.p2
    refine x_skip (.then_normal ?_)
    refine .sub (F' := [(3, _), (4, _), (5, _)]) (.cons rfl (.cons rfl (.cons rfl .nil))) ?_
    refine x_seq (x_region ?_)
    refine tl_y rfl (y_loadAgg rfl rfl (.own inferInstance inferInstance)) ?_
    refine tl_y rfl (y_makeFunc rfl rfl) ?_
    refine tl_e rfl (e_call' rfl (oall_spec o ho.hp (by omega) (rows := keyR o name sec q.toNat) (keyR_le o name sec q.toNat) (fun i M2 X hi hM2 hX => by
      haveI i1 : Has X b1 (.cells (List.toArray o.cells) 31 (0, 0)) := ⟨hX _ (Has.mem)⟩
      haveI i2 : Has X b2 (.cells (List.toArray (seedC NA nl nc SA sl sc)) 41 (0, 0)) := ⟨hX _ (Has.mem)⟩
      haveI i3 : Has X b3 (.cells (List.toArray [.int .u32 (q.toNat : Int)]) 23 (0, 0)) := ⟨hX _ (Has.mem)⟩
      exact oKey1_spec ((hg.mono hM1).mono hM2) o ho ((hname.mono hM1).mono hM2) ((hsec.mono hM1).mono hM2) (by omega) (by omega) q i (by omega))) ?_)
    rintro _ M2 _ hM2 ⟨rfl, A2, m2, c2, rfl, hA2⟩
    have hd := hM1.trans hM2
    have hm2 := hA2.size
    have hle := catR_le (keyR_le o name sec q.toNat) p
    refine tl_y rfl (y_assign (v := .slice _ _ _) rfl) ?_
    refine tl_nil (.then_normal ?_)
    refine x_seq (x_region ?_)
    refine tl_y rfl (y_fieldAddr rfl) ?_
    refine tl_y rfl (y_load rfl rfl (.own inferInstance inferInstance)) ?_
    refine tl_y rfl (y_fieldAddr rfl) ?_
    refine tl_y rfl (y_load rfl rfl (.own inferInstance inferInstance)) ?_
    refine tl_y rfl (y_fieldAddr rfl) ?_
    refine tl_y rfl (y_load rfl rfl (.own inferInstance inferInstance)) ?_
    refine tl_y rfl (y_load rfl rfl (.own inferInstance inferInstance)) ?_
    refine tl_y rfl (y_move (v := .slice _ _ _) rfl) ?_
    refine tl_e rfl (e_buildSlice rfl (by decide) (fun b7 => ?_))
    refine .pub b7 inferInstance (fun M3 hM3 hb7 => ?_)
    replace hd := hd.trans hM3
    refine tl_e rfl (e_call' rfl (Part_spec (hg.mono hd).sha (hg.mono hd).kec o.kind o.n (hname.mono hd) q 32896 (by omega) (Row.whole hb7 rfl (by omega)) (.cons (hA2.mono hM3) .nil) (by simp only [List.flatten_cons, List.flatten_nil, List.length_append, List.length_nil]; omega)) ?_)
    rintro _ M4 _ hM4 ⟨rfl, A4, m4, c4, rfl, hA4⟩
    rw [show [catR (keyR o name sec q.toNat) p].flatten = catR (keyR o name sec q.toNat) p by simp] at hA4
    refine tl_y rfl (y_assign (v := .slice _ _ _) rfl) ?_
    refine tl_nil (.then_normal ?_)
    refine .sub (F' := [(6, _)]) (.cons rfl .nil) ?_
    refine x_ret (.dropTo L inferInstance (ret1 rfl rfl (hd.trans hM4) ⟨rfl, _, _, _, rfl, by rw [if_pos hok, keyB, ho.hp, Int.toNat_natCast]; exact hA4⟩))
end
end Go.Proofs.YtbjnjedfoiedeaaGreatDoor
set_option linter.unusedVariables false
set_option linter.unusedSimpArgs false
set_option linter.constructorNameAsVariable false
namespace Go.Proofs.YtbjnjedfoiedeaaGreatDoor
open Go Go.Eng
theorem digO_get {o : OtsV} {n w p : Nat} (ho : OF o n w p) (name : List UInt8) (q : Nat) (salt text : List UInt8) : (digO o name q salt text).length = p ∧ ∀ d ∈ digO o name q salt text, d < pw2 w := by
  rw [digO, ho.hn, ho.hw, Int.toNat_natCast, Int.toNat_natCast]
  exact ⟨by rw [allD_len ho.isn ho.isw, ho.up], allD_lt _⟩
theorem intsL_at {xs : List Nat} {i : Nat} (h : i < xs.length) : (intsL xs)[i]? = some (.int .i64 ((xs.getD i 0 : Nat) : Int)) := by
  rw [intsL, List.getElem?_map, List.getD_eq_getElem?_getD, List.getElem?_eq_getElem h]; rfl
section
variable {G : World} {M : Mem} {L : Own} {NA SA TA YA : Option Addr} {nl nc sl sc tl tc yl yc : Nat} {name sec text y : List UInt8}
theorem osum_spec (hg : ChG M) (o : OtsV) {n w p : Nat} (ho : OF o n w p) (hname : Bytes M NA nl nc name) (hn16 : nl = 16) (q : UInt32) (hsalt : Bytes M SA sl sc sec) (htext : Bytes M TA tl tc text) (hsl : sl ≤ 1000000000) (htl : tl ≤ 1000000000) :
    Con Tryz.prog 25 #[.agg (List.toArray o.cells), .slice NA nl nc, .int .u32 (q.toNat : Int), .slice SA sl sc, .slice TA tl tc] G M L (fun v M' L' => L = L' ∧ ∃ A c, v = .slice A p c ∧ Row M' 1 A p c (intsL (digO o name q.toNat sec text))) noPanic := by
  have h1 := hname.size
  have h2 := hsalt.size
  have h3 := htext.size
  refine enter (args := [_, _, _, _, _]) (fn := Tryz.f25) ⟨Tryz.func25, rfl, by kernel_rfl, by kernel_rfl⟩ 24 rfl ?_
  refine x_seq (x_region ?_)
  refine tl_e rfl (e_box rfl (fun b1 => ?_))
  refine tl_y rfl (y_assign rfl) ?_
  refine tl_nil (.then_normal ?_)
  refine x_seq ?_
  have he : Le M M := Le.refl _
  refine x_draw 14 hmix rfl ?_
  refine to_p 0 rfl (by kernel_rfl) rfl (y_fieldAddr rfl) ?_
  refine to_y 1 rfl (by kernel_rfl) rfl (y_load rfl rfl (.own inferInstance inferInstance)) ?_
  refine to_p 2 rfl (by kernel_rfl) rfl (y_fieldAddr rfl) ?_
  refine to_y 3 rfl (by kernel_rfl) rfl (y_load rfl rfl (.own inferInstance inferInstance)) ?_
  refine to_p 4 rfl (by kernel_rfl) rfl (y_move (v := .slice _ _ _) rfl) ?_
  refine to_p 5 rfl (by kernel_rfl) rfl (y_move (v := .int _ _) rfl) ?_
  refine to_p 6 rfl (by kernel_rfl) rfl (y_move (v := .slice _ _ _) rfl) ?_
  refine to_p 7 rfl (by kernel_rfl) rfl (y_move (v := .slice _ _ _) rfl) ?_
  refine to_p 10 rfl (by kernel_rfl) rfl (y_fieldAddr rfl) ?_
  refine to_y 11 rfl (by kernel_rfl) rfl (y_load (v := .int .i64 (w : Int)) rfl rfl (by rw [← ho.hw]; exact .own inferInstance inferInstance)) ?_
  refine to_e 8 rfl (by kernel_rfl) rfl (e_buildSlice rfl (by decide) (fun b7 => ?_))
  refine ⟨⟨he, Keeps.mem⟩, ?_⟩
  refine .pub b7 inferInstance (fun M3 hM3 hb7 => ?_)
  replace he := he.trans hM3
  refine to_e 9 rfl (by kernel_rfl) rfl (e_call' rfl (Part_spec (hg.mono he).sha (hg.mono he).kec o.kind o.n (hname.mono he) q 33153 (by omega) (Row.whole hb7 rfl (by omega)) (.cons (hsalt.mono he) (.cons (htext.mono he) .nil)) (by simp only [List.flatten_cons, List.flatten_nil, List.length_append, List.length_nil]; omega)) ?_)
  rintro _ M4 _ hM4 ⟨rfl, A4, m4, c4, rfl, hA4⟩
  rw [show [sec, text].flatten = sec ++ text by simp] at hA4
  replace he := he.trans hM4
  have hm4 := hA4.size
  rw [cPartO_len ho (by omega)] at hm4
  subst hm4
  refine ⟨⟨(by first | exact Le.refl _ | assumption), Keeps.mem⟩, ?_⟩
  refine to_e 12 rfl (by kernel_rfl) rfl (e_call' rfl (All7_spec ho.isn ho.isw hA4) ?_)
  rintro _ M5 _ hM5 ⟨rfl, A5, c5, rfl, hr5⟩
  replace he := he.trans hM5
  have hr5' : Row M5 1 A5 p c5 (intsL (digO o name q.toNat sec text)) := by
    rw [digO, ho.hn, ho.hw, Int.toNat_natCast, Int.toNat_natCast, ho.up]
    rw [ho.hn] at hr5
    exact hr5
  rw [← ho.up]
  refine ⟨⟨(by first | exact Le.refl _ | assumption), Keeps.mem⟩, ?_⟩
  refine to_p 13 rfl (by kernel_rfl) rfl (y_assign (v := .slice _ _ _) rfl) ?_
  refine to_nil (by kernel_rfl) (.then_normal ?_)
  refine .sub (F' := [(10, _)]) (.cons rfl .nil) ?_
  refine x_ret (.dropTo L inferInstance (ret1 rfl rfl he ⟨rfl, A5, c5, rfl, hr5'⟩))
theorem oSign1_spec (hg : ChG M) (o : OtsV) {n w p : Nat} (ho : OF o n w p) (hname : Bytes M NA nl nc name) (hsec : Bytes M SA sl sc sec) (hnl : nl ≤ 1000000) (hsl : sl ≤ 1000000) (q : UInt32) {DA : Option Addr} {dc : Nat} {d : List Nat} (hd : Row M 1 DA p dc (intsL d)) (i : Nat) (hi : i < p) {bo bs bq bd : Nat}
    [i1 : Has L bo (.cells (List.toArray o.cells) 31 (0, 0))] [i2 : Has L bs (.cells (List.toArray (seedC NA nl nc SA sl sc)) 41 (0, 0))] [i3 : Has L bq (.cells (List.toArray [.int .u32 (q.toNat : Int)]) 23 (0, 0))] [i4 : Has L bd (.cells (List.toArray [.slice DA p dc]) 51 (0, 0))] :
    Con Tryz.prog 41 #[.int .i64 (i : Int), .pointer (some ⟨bo, 0, none⟩), .pointer (some ⟨bs, 0, none⟩), .pointer (some ⟨bq, 0, none⟩), .pointer (some ⟨bd, 0, none⟩)] G M L (fun v M' L' => L = L' ∧ ∃ A m c, v = .slice A m c ∧ Bytes M' A m c (sigR o name sec q.toNat d i)) noPanic := by
  have hp2 := ho.p2
  have hdl : d.length = p := by have := hd.len; simpa [intsL] using this
  obtain ⟨g, oo, rfl, hcell⟩ := hd.addr (by omega)
  refine enter (args := [_, _, _, _, _]) (fn := Tryz.f41) ⟨Tryz.func41, rfl, by kernel_rfl, by kernel_rfl⟩ 23 rfl ?_
  refine x_seq (x_region ?_)
  refine tl_y rfl (y_assign rfl) ?_
  refine tl_nil (.then_normal ?_)
  refine x_seq ?_
  have he : Le M M := Le.refl _
  refine x_draw 17 hmix rfl ?_
  refine to_y 0 rfl (by kernel_rfl) rfl (y_loadAgg rfl rfl (.own inferInstance inferInstance)) ?_
  refine to_p 1 rfl (by kernel_rfl) rfl (y_fieldAddr rfl) ?_
  refine to_y 2 rfl (by kernel_rfl) rfl (y_load rfl rfl (.own inferInstance inferInstance)) ?_
  refine to_y 3 rfl (by kernel_rfl) rfl (y_load rfl rfl (.own inferInstance inferInstance)) ?_
  refine to_p 4 rfl (by kernel_rfl) rfl (y_move (v := .int _ _) rfl) ?_
  refine to_y 5 rfl (by kernel_rfl) rfl (y_load rfl rfl (.own inferInstance inferInstance)) ?_
  refine to_p 6 rfl (by kernel_rfl) rfl (y_move (v := .int _ _) rfl) ?_
  refine to_p 7 rfl (by kernel_rfl) rfl (y_indexAddrK i rfl rfl (by omega)) ?_
  refine to_y 8 rfl (by kernel_rfl) rfl (y_load rfl rfl (.at_ (hcell _ i _ (intsL_at (by omega))) (by omega))) ?_
  refine to_y 9 rfl (by kernel_rfl) rfl (y_loadAgg rfl rfl (.own inferInstance inferInstance)) ?_
  refine to_y 10 rfl (by kernel_rfl) rfl (y_loadAgg rfl rfl (.own inferInstance inferInstance)) ?_
  refine to_y 11 rfl (by kernel_rfl) rfl (y_load rfl rfl (.own inferInstance inferInstance)) ?_
  refine to_p 12 rfl (by kernel_rfl) rfl (y_move (v := .int _ _) rfl) ?_
  refine to_p 13 rfl (by kernel_rfl) rfl (y_convE (b := (i : Int)) rfl (by rw [wrapU16]; omega)) ?_
  refine to_e 14 rfl (by kernel_rfl) rfl (e_call' rfl (ohid_spec hg o hname hsec hnl hsl q i (by omega)) ?_)
  rintro _ M2 _ hM2 ⟨rfl, A2, m2, c2, rfl, hA2⟩
  replace he := he.trans hM2
  refine ⟨⟨(by first | exact Le.refl _ | assumption), Keeps.mem⟩, ?_⟩
  refine to_e 15 rfl (by kernel_rfl) rfl (e_call' rfl (Up_spec' (hg.mono he).sha (hg.mono he).kec (hg.mono he).set o (hname.mono he) hA2 q i 0 ((d.getD i 0 : Nat) : Int)) ?_)
  rintro _ M3 _ hM3 ⟨rfl, A3, m3, c3, rfl, hA3⟩
  replace he := he.trans hM3
  refine ⟨⟨(by first | exact Le.refl _ | assumption), Keeps.mem⟩, ?_⟩
  refine to_p 16 rfl (by kernel_rfl) rfl (y_assign (v := .slice _ _ _) rfl) ?_
  refine to_nil (by kernel_rfl) (.then_normal ?_)
  refine .sub (F' := [(6, _)]) (.cons rfl .nil) ?_
  refine x_ret (ret1 rfl rfl he ⟨rfl, _, _, _, rfl, hA3⟩)
theorem oSign_spec (hg : ChG M) (o : OtsV) (hname : Bytes M NA nl nc name) (hsec : Bytes M SA sl sc sec) (q : UInt32) (htext : Bytes M TA tl tc text) :
    Con Tryz.prog 18 #[.agg (List.toArray o.cells), .agg (List.toArray (seedC NA nl nc SA sl sc)), .int .u32 (q.toNat : Int), .slice TA tl tc] G M L (fun v M' L' => L = L' ∧ ∃ A m c, v = .slice A m c ∧ Bytes M' A m c (if okY o nl sl ∧ tl ≤ 65536 then sigB o name sec q.toNat text else [])) noPanic := by
  refine enter (args := [_, _, _, _]) (fn := Tryz.f18) ⟨Tryz.func18, rfl, by kernel_rfl, by kernel_rfl⟩ 43 rfl ?_
  refine x_seq (x_region ?_)
  refine tl_e rfl (e_box rfl (fun b1 => ?_))
  refine tl_e rfl (e_box rfl (fun b2 => ?_))
  refine tl_e rfl (e_box rfl (fun b3 => ?_))
  refine tl_y rfl (y_assign rfl) ?_
  refine tl_nil (.then_normal ?_)
  refine .sub (F' := [(3, _), (4, _), (5, _), (6, _)]) (.cons rfl (.cons rfl (.cons rfl (.cons rfl .nil)))) ?_
  refine x_seq (x_seq (x_region ?_))
  refine tl_y rfl (y_loadAgg rfl rfl (.own inferInstance inferInstance)) ?_
  refine tl_y rfl (y_loadAgg rfl rfl (.own inferInstance inferInstance)) ?_
  refine tl_e rfl (e_call' rfl (oMay_spec hg.set o) ?_)
  rintro _ M1 _ hM1 ⟨rfl, rfl⟩
  refine tl_y rfl (y_notd rfl) ?_
  refine tl_y rfl (y_move (v := .bool _) rfl) ?_
  refine tl_cases (s := 16) rfl (fun hk1 => ?_) (fun hk1 => ?_)
  ·
    refine tl_skip rfl ?_
    refine tl_skip rfl ?_
    refine tl_skip rfl ?_
    refine tl_y rfl (y_pickT rfl rfl) ?_
    refine tl_nil (.then_normal ?_)
    refine .sub (F' := [(3, _), (4, _), (5, _), (6, _), (20, _)]) (.cons rfl (.cons rfl (.cons rfl (.cons rfl (.cons rfl .nil))))) ?_
    refine x_true rfl rfl ?_
    refine x_seq (x_region ?_)
    refine tl_y rfl (y_assign rfl) ?_
    refine tl_nil (.then_normal ?_)
    refine .sub (F' := [(8, _)]) (.cons rfl .nil) ?_
    refine x_ret (.then_ret (.dropTo L inferInstance (ret1 rfl rfl hM1 ⟨rfl, _, _, _, rfl, by rw [if_neg (fun h => hk1 h.1)]; exact Row.nil _ _⟩)))
  ·
    refine tl_y rfl (y_move (v := .slice _ _ _) rfl) ?_
    refine tl_y rfl (y_len rfl) ?_
    refine tl_y rfl (y_gtr rfl rfl) ?_
    refine tl_y rfl (y_pickF rfl rfl) ?_
    refine tl_nil (.then_normal ?_)
    refine .sub (F' := [(3, _), (4, _), (5, _), (6, _), (20, _)]) (.cons rfl (.cons rfl (.cons rfl (.cons rfl (.cons rfl .nil))))) ?_
    refine x_cond rfl (fun hc1 => ?_) (fun hc1 => ?_)
    ·
      refine x_seq (x_region ?_)
      refine tl_y rfl (y_assign rfl) ?_
      refine tl_nil (.then_normal ?_)
      refine .sub (F' := [(8, _)]) (.cons rfl .nil) ?_
      refine x_ret (.then_ret (.dropTo L inferInstance (ret1 rfl rfl hM1 ⟨rfl, _, _, _, rfl, by rw [if_neg (fun h => by have := h.2; omega)]; exact Row.nil _ _⟩)))
    ·
      have hok : okY o nl sl := Classical.not_not.1 hk1
      obtain ⟨n, w, p, ho⟩ := okO_facts hok.1
      have hn32 := ho.n32
      have hn := ho.hn
      have hsl := hok.2.2
      have hnl := hok.2.1
      have hp2 := ho.p2
      have hcl := o.code.toNat_lt
      have htl := htext.size
      refine x_skip (.then_normal ?_)
      refine x_seq (x_region ?_)
      refine tl_y rfl (y_loadAgg rfl rfl (.own inferInstance inferInstance)) ?_
      refine tl_y rfl (y_loadAgg rfl rfl (.own inferInstance inferInstance)) ?_
      refine tl_y rfl (y_load rfl rfl (.own inferInstance inferInstance)) ?_
      refine tl_e rfl (e_call' rfl (ohid_spec (hg.mono hM1) o (hname.mono hM1) (hsec.mono hM1) (by omega) (by omega) q 65533 (by omega)) ?_)
      rintro _ M2 _ hM2 ⟨rfl, A2, m2, c2, rfl, hA2⟩
      have hd := hM1.trans hM2
      have hm2 := hA2.size
      rw [hidB_len ho] at hm2
      subst hm2
      refine tl_y rfl (y_assign (v := .slice _ _ _) rfl) ?_
      refine tl_nil (.then_normal ?_)
      refine .sub (F' := [(3, _), (4, _), (5, _), (6, _), (9, _)]) (.cons rfl (.cons rfl (.cons rfl (.cons rfl (.cons rfl .nil))))) ?_
      refine x_seq (x_region ?_)
      refine tl_y rfl (y_loadAgg rfl rfl (.own inferInstance inferInstance)) ?_
      refine tl_y rfl (y_fieldAddr rfl) ?_
      refine tl_y rfl (y_load rfl rfl (.own inferInstance inferInstance)) ?_
      refine tl_y rfl (y_load rfl rfl (.own inferInstance inferInstance)) ?_
      refine tl_y rfl (y_move (v := .slice _ _ _) rfl) ?_
      refine tl_y rfl (y_move (v := .slice _ _ _) rfl) ?_
      refine tl_e rfl (e_call' rfl (osum_spec (hg.mono hd) o ho (hname.mono hd) hnl q hA2 (htext.mono hd) (by omega) (by omega)) ?_)
      rintro _ M3 _ hM3 ⟨rfl, A3, c3, rfl, hr3⟩
      replace hd := hd.trans hM3
      obtain ⟨ds, hds⟩ : ∃ ds, ds = digO o name q.toNat (hidB o name sec q.toNat 65533) text := ⟨_, rfl⟩
      rw [← hds] at hr3
      refine tl_e rfl (e_alloc (fun b4 => ?_))
      refine tl_e rfl (e_store rfl rfl (by rfl) (by rfl) inferInstance inferInstance inferInstance ?_)
      refine tl_nil (.then_normal ?_)
      refine .sub (F' := [(4, _), (5, _), (6, _), (9, _), (10, _)]) (.cons rfl (.cons rfl (.cons rfl (.cons rfl (.cons rfl .nil))))) ?_
      refine x_seq (x_region ?_)
      refine tl_y rfl (y_loadAgg rfl rfl (.own inferInstance inferInstance)) ?_
      refine tl_y rfl (y_makeFunc rfl rfl) ?_
      refine tl_e rfl (e_call' rfl (oall_spec o ho.hp (by omega) (rows := sigR o name sec q.toNat ds) (sigR_le o name sec q.toNat ds) (fun i M2 X hi hM2 hX => by
        haveI i1 : Has X b1 (.cells (List.toArray o.cells) 31 (0, 0)) := ⟨hX _ (Has.mem)⟩
        haveI i2 : Has X b2 (.cells (List.toArray (seedC NA nl nc SA sl sc)) 41 (0, 0)) := ⟨hX _ (Has.mem)⟩
        haveI i3 : Has X b3 (.cells (List.toArray [.int .u32 (q.toNat : Int)]) 23 (0, 0)) := ⟨hX _ (Has.mem)⟩
        haveI i4 : Has X b4 (.cells (List.toArray [.slice A3 p c3]) 51 (0, 0)) := ⟨hX _ (Has.mem)⟩
        exact oSign1_spec ((hg.mono hd).mono hM2) o ho ((hname.mono hd).mono hM2) ((hsec.mono hd).mono hM2) (by omega) (by omega) q (hr3.mono hM2) i hi)) ?_)
      rintro _ M4 _ hM4 ⟨rfl, A4, m4, c4, rfl, hA4⟩
      replace hd := hd.trans hM4
      have hm4 := hA4.size
      have hle := catR_le (sigR_le o name sec q.toNat ds) p
      refine tl_y rfl (y_assign (v := .slice _ _ _) rfl) ?_
      refine tl_nil (.then_normal ?_)
      refine .sub (F' := [(4, _), (9, _), (11, _)]) (.cons rfl (.cons rfl (.cons rfl .nil))) ?_
      refine x_seq (x_region ?_)
      refine tl_y rfl (y_fieldAddr rfl) ?_
      refine tl_y rfl (y_load rfl rfl (.own inferInstance inferInstance)) ?_
      refine tl_y rfl (y_convN64 rfl (by omega)) ?_
      refine tl_e rfl (e_call' rfl (PutV_spec o.code.toNat 4 (by omega) (by omega)) ?_)
      rintro _ M5 _ hM5 ⟨rfl, A5, c5, rfl, hA5⟩
      replace hd := hd.trans hM5
      refine tl_y rfl (y_move (v := .slice _ _ _) rfl) ?_
      refine tl_y rfl (y_move (v := .slice _ _ _) rfl) ?_
      refine tl_e rfl (e_buildSlice rfl (by decide) (fun b7 => ?_))
      refine .pub b7 inferInstance (fun M6 hM6 hb7 => ?_)
      replace hd := hd.trans hM6
      have hfl : [putB o.code.toNat 4, hidB o name sec q.toNat 65533, catR (sigR o name sec q.toNat ds) p].flatten = sigB o name sec q.toNat text := by
        rw [sigB, ho.hp, Int.toNat_natCast, saltB, ← hds]; simp
      have hfll : (sigB o name sec q.toNat text).length ≤ 10000 := by
        rw [← hfl]
        simp only [List.flatten_cons, List.flatten_nil, List.length_append, List.length_nil, putB_length]
        rw [hidB_len ho]
        omega
      refine tl_e rfl (e_call' rfl (Cat_spec (Row.whole hb7 rfl (by omega)) (.cons (hA5.mono hM6) (.cons (hA2.mono (hM3.trans (hM4.trans (hM5.trans hM6)))) (.cons (hA4.mono (hM5.trans hM6)) .nil))) (by rw [hfl]; omega)) ?_)
      rintro _ M7 _ hM7 ⟨rfl, A7, c7, rfl, hA7⟩
      rw [hfl] at hA7
      rw [hfl]
      refine tl_y rfl (y_assign (v := .slice _ _ _) rfl) ?_
      refine tl_nil (.then_normal ?_)
      refine .sub (F' := [(8, _)]) (.cons rfl .nil) ?_
      refine x_ret (.dropTo L inferInstance (ret1 rfl rfl (hd.trans hM7) ⟨rfl, _, _, _, rfl, by rw [if_pos ⟨hok, by omega⟩]; exact hA7⟩))
end
end Go.Proofs.YtbjnjedfoiedeaaGreatDoor
set_option linter.unusedVariables false
set_option linter.unusedSimpArgs false
set_option linter.constructorNameAsVariable false
namespace Go.Proofs.YtbjnjedfoiedeaaGreatDoor
open Go Go.Eng
/-- The set of a signature. -/
def sigC (bs : List UInt8) : UInt32 := UInt32.ofNat (getB (bs.take 4))
def ofV (bs : List UInt8) : OtsV × Int :=
  if bs.length < 4 then (ots0, 2) else if otsE (sigC bs) ≠ 0 then (ots0, otsE (sigC bs)) else if bs.length ≠ sizeN (otsV (sigC bs)) then (ots0, 5) else (otsV (sigC bs), 0)
theorem otsV_code {c : UInt32} (h : otsE c = 0) : (otsV c).code = c ∧ okO (otsV c) := by
  obtain ⟨k, hk, e1, e2, e3⟩ := otsE_some h
  have hc : (otsV c).code = c := by
    rw [e2]
    apply UInt32.toNat_inj.1
    show (UInt32.ofNat (k + 1)).toNat = c.toNat
    rw [UInt32.toNat_ofNat', e3, Nat.mod_eq_of_lt (by omega)]
  exact ⟨hc, by rw [okO, hc]; exact ⟨h, rfl⟩⟩
theorem OF.size {o : OtsV} {n w p : Nat} (h : OF o n w p) : sizeN o = 4 + n * (p + 1) ∧ n * (p + 1) = n * p + n ∧ n * p ≤ 32 * 265 := by
  refine ⟨by rw [sizeN, h.hn, h.hp, Int.toNat_natCast, Int.toNat_natCast], Nat.mul_succ n p, Nat.mul_le_mul h.n32.2 h.p2⟩
section
variable {G : World} {M : Mem} {L : Own} {NA SA TA YA : Option Addr} {nl nc sl sc tl tc yl yc : Nat} {name sec text y : List UInt8}
theorem oSize_spec (o : OtsV) {n w p : Nat} (ho : OF o n w p) :
    Con Tryz.prog 20 #[.agg (List.toArray o.cells)] G M L (fun v M' L' => M = M' ∧ L = L' ∧ v = .int .i64 ((sizeN o : Nat) : Int)) noPanic := by
  obtain ⟨h1, h2, h3⟩ := ho.size
  have hn32 := ho.n32
  have hp2 := ho.p2
  have hm : (n : Int) * ((p : Int) + 1) = ((n * (p + 1) : Nat) : Int) := by push_cast; rfl
  refine enter (args := [_]) (fn := Tryz.f20) ⟨Tryz.func20, rfl, by kernel_rfl, by kernel_rfl⟩ 10 rfl ?_
  refine x_seq (x_region ?_)
  refine tl_e rfl (e_box rfl (fun b1 => ?_))
  refine tl_y rfl (y_assign rfl) ?_
  refine tl_nil (.then_normal ?_)
  refine x_seq (x_region ?_)
  refine tl_y rfl (y_fieldAddr rfl) ?_
  refine tl_y rfl (y_load (v := .int .i64 (n : Int)) rfl rfl (by rw [← ho.hn]; exact .own inferInstance inferInstance)) ?_
  refine tl_y rfl (y_fieldAddr rfl) ?_
  refine tl_y rfl (y_load (v := .int .i64 (p : Int)) rfl rfl (by rw [← ho.hp]; exact .own inferInstance inferInstance)) ?_
  refine tl_y rfl (y_addI rfl rfl (by omega)) ?_
  have hmb : -9223372036854775808 ≤ (n : Int) * ((p : Int) + 1) ∧ (n : Int) * ((p : Int) + 1) ≤ 9223372036854775807 := by rw [hm]; omega
  refine tl_y rfl (y_mulI rfl rfl hmb) ?_
  rw [hm]
  refine tl_y rfl (y_addI rfl rfl (by omega)) ?_
  refine tl_y rfl (y_assign (v := .int _ _) rfl) ?_
  refine tl_nil (.then_normal ?_)
  refine .sub (F' := [(2, _)]) (.cons rfl .nil) ?_
  refine x_ret (.dropTo L inferInstance (ret1 rfl rfl (Le.refl _) ⟨rfl, rfl, by rw [h1]; congr 1⟩))
theorem oof_spec (hs : SetG M) {A : Option Addr} {m c : Nat} {bs : List UInt8} (h : Bytes M A m c bs) :
    Con Tryz.prog 24 #[.slice A m c] G M L (fun v M' L' => L = L' ∧ v = .tuple #[.agg (List.toArray (ofV bs).1.cells), .int .i64 (ofV bs).2]) noPanic := by
  have hm := h.size
  have hc := h.le
  refine enter (args := [_]) (fn := Tryz.f24) ⟨Tryz.func24, rfl, by kernel_rfl, by kernel_rfl⟩ 37 rfl ?_
  refine x_seq (x_region ?_)
  refine tl_e rfl (e_alloc (fun b1 => ?_))
  refine tl_y rfl (y_assign rfl) ?_
  refine tl_nil (.then_normal ?_)
  refine x_seq (x_seq (x_region ?_))
  refine tl_y rfl (y_move (v := .slice _ _ _) rfl) ?_
  refine tl_y rfl (y_len rfl) ?_
  refine tl_y rfl (y_lss rfl rfl) ?_
  refine tl_nil (.then_normal ?_)
  refine x_cond rfl (fun hc1 => ?_) (fun hc1 => ?_)
  ·
    refine x_seq (x_region ?_)
    refine tl_y rfl (y_build rfl) ?_
    refine tl_e rfl (e_store rfl rfl (by rfl) (by rfl) inferInstance inferInstance inferInstance ?_)
    refine tl_y rfl (y_assign rfl) ?_
    refine tl_nil (.then_normal ?_)
    refine .sub (F' := [(2, _), (3, _)]) (.cons rfl (.cons rfl .nil)) ?_
    refine x_ret (.then_ret (retRV (L' := L) (rv2 rfl (rc_cellAgg (by rfl) rfl (.own inferInstance inferInstance)) (rc_tmp (by rfl))) inferInstance (Le.refl _) ⟨rfl, by rw [ofV, if_pos (by omega)]; rfl⟩))
  ·
    have h4 : 4 ≤ m := by omega
    refine x_skip (.then_normal ?_)
    refine .sub (F' := [(0, _), (2, _)]) (.cons rfl (.cons rfl .nil)) ?_
    refine x_seq (x_region ?_)
    refine tl_y rfl (y_move (v := .slice _ _ _) rfl) ?_
    refine tl_y rfl (y_sliceH rfl rfl (by omega) (by omega)) ?_
    refine tl_e rfl (e_call' rfl (Get8_spec (Bytes.take h 4 h4) (by omega)) ?_)
    rintro _ _ _ _ ⟨rfl, rfl, x, hx, rfl⟩
    have hgl := getB_lt (bs.take 4)
    rw [List.length_take, Nat.min_eq_left (by omega)] at hgl
    have hcv : ((sigC bs).toNat : Int) = (x.toNat : Int) := by rw [sigC, UInt32.toNat_ofNat', hx, Nat.mod_eq_of_lt (by omega)]
    refine tl_y rfl (y_move (v := .tuple _) rfl) ?_
    refine tl_y rfl (y_extract rfl) ?_
    refine tl_y rfl (y_extract rfl) ?_
    refine tl_y rfl (y_assign (v := .int _ _) rfl) ?_
    refine tl_y rfl (y_assign (v := .bool _) rfl) ?_
    refine tl_nil (.then_normal ?_)
    refine .sub (F' := [(0, _), (2, _), (4, _)]) (.cons rfl (.cons rfl (.cons rfl .nil))) ?_
    refine x_seq (x_region ?_)
    refine tl_y rfl (y_move (v := .int _ _) rfl) ?_
    refine tl_y rfl (y_convE (b := ((sigC bs).toNat : Int)) rfl (by rw [wrapU32, hcv]; omega)) ?_
    refine tl_e rfl (e_call' rfl (Ots_spec hs (sigC bs)) ?_)
    rintro _ M1 _ hM1 ⟨rfl, rfl⟩
    refine tl_y rfl (y_move (v := .tuple _) rfl) ?_
    refine tl_y rfl (y_extract rfl) ?_
    refine tl_y rfl (y_extract rfl) ?_
    refine tl_e rfl (e_alloc (fun b2 => ?_))
    refine tl_e rfl (e_store rfl rfl (by rfl) (by rfl) inferInstance inferInstance inferInstance ?_)
    refine tl_y rfl (y_assign (v := .int _ _) rfl) ?_
    refine tl_nil (.then_normal ?_)
    refine .sub (F' := [(0, _), (2, _), (6, _), (7, _)]) (.cons rfl (.cons rfl (.cons rfl (.cons rfl .nil)))) ?_
    refine x_seq ?_
    refine x_block ?_
    refine x_seq (x_region ?_)
    refine tl_y rfl (y_move (v := .int _ _) rfl) ?_
    refine tl_y rfl (y_neq rfl rfl) ?_
    refine tl_y rfl (y_assign (v := .bool _) rfl) ?_
    refine tl_nil (.then_normal ?_)
    refine x_cond rfl (fun hc2 => ?_) (fun hc2 => ?_)
    ·
      refine x_seq (x_region ?_)
      refine tl_y rfl (y_build rfl) ?_
      refine tl_y rfl (y_move (v := .int _ _) rfl) ?_
      refine tl_e rfl (e_store rfl rfl (by rfl) (by rfl) inferInstance inferInstance inferInstance ?_)
      refine tl_y rfl (y_assign (v := .int _ _) rfl) ?_
      refine tl_nil (.then_normal ?_)
      refine .sub (F' := [(2, _), (3, _), (6, _)]) (.cons rfl (.cons rfl (.cons rfl .nil))) ?_
      refine x_ret (.block_ret (.then_ret (retRV (L' := L) (rv2 rfl (rc_cellAgg (by rfl) rfl (.own inferInstance inferInstance)) (rc_tmp (by rfl))) inferInstance hM1 ⟨rfl, by rw [ofV, if_neg (by omega), if_pos hc2]; rfl⟩)))
    ·
      have he0 : otsE (sigC bs) = 0 := Classical.not_not.1 hc2
      obtain ⟨n, w, p, ho⟩ := okO_facts (otsV_code he0).2
      refine x_seq (x_region ?_)
      refine tl_y rfl (y_move (v := .slice _ _ _) rfl) ?_
      refine tl_y rfl (y_len rfl) ?_
      refine tl_y rfl (y_loadAgg rfl rfl (.own inferInstance inferInstance)) ?_
      refine tl_e rfl (e_call' rfl (oSize_spec _ ho) ?_)
      rintro _ _ _ _ ⟨rfl, rfl, rfl⟩
      refine tl_y rfl (y_neq rfl rfl) ?_
      refine tl_y rfl (y_assign (v := .bool _) rfl) ?_
      refine tl_nil (.then_normal ?_)
      refine .sub (F' := [(2, _), (6, _), (29, _)]) (.cons rfl (.cons rfl (.cons rfl .nil))) ?_
      refine x_cond rfl (fun hc3 => ?_) (fun hc3 => ?_)
      ·
        refine x_seq (x_region ?_)
        refine tl_y rfl (y_build rfl) ?_
        refine tl_e rfl (e_store rfl rfl (by rfl) (by rfl) inferInstance inferInstance inferInstance ?_)
        refine tl_y rfl (y_assign rfl) ?_
        refine tl_nil (.then_normal ?_)
        refine x_ret (.block_ret (.then_ret (retRV (L' := L) (rv2 rfl (rc_cellAgg (by rfl) rfl (.own inferInstance inferInstance)) (rc_tmp (by rfl))) inferInstance hM1 ⟨rfl, by rw [ofV, if_neg (by omega), if_neg hc2, if_pos (by omega)]; rfl⟩)))
      ·
        refine x_skip (.block_normal (.then_normal ?_))
        refine x_seq (x_region ?_)
        refine tl_y rfl (y_loadAgg rfl rfl (.own inferInstance inferInstance)) ?_
        refine tl_e rfl (e_store rfl rfl (by rfl) (by rfl) inferInstance inferInstance inferInstance ?_)
        refine tl_y rfl (y_assign rfl) ?_
        refine tl_nil (.then_normal ?_)
        refine x_ret (retRV (L' := L) (rv2 rfl (rc_cellAgg (by rfl) rfl (.own inferInstance inferInstance)) (rc_tmp (by rfl))) inferInstance hM1 ⟨rfl, by rw [ofV, if_neg (by omega), if_neg hc2, if_neg (by omega)]⟩)
theorem oStands1_spec (hg : ChG M) (o : OtsV) {n w p : Nat} (ho : OF o n w p) (hname : Bytes M NA nl nc name) (q : UInt32) {DA : Option Addr} {dc : Nat} {d : List Nat} (hd : Row M 1 DA p dc (intsL d)) (hy : Bytes M YA yl yc y) (hyl : yl = n * p) (i : Nat) (hi : i < p) {bo bn bq bd by_ : Nat}
    [i1 : Has L bo (.cells (List.toArray o.cells) 31 (0, 0))] [i2 : Has L bn (.cells (List.toArray [.slice NA nl nc]) 22 (0, 0))] [i3 : Has L bq (.cells (List.toArray [.int .u32 (q.toNat : Int)]) 23 (0, 0))] [i4 : Has L bd (.cells (List.toArray [.slice DA p dc]) 51 (0, 0))] [i5 : Has L by_ (.cells (List.toArray [.slice YA yl yc]) 22 (0, 0))] :
    Con Tryz.prog 27 #[.int .i64 (i : Int), .pointer (some ⟨bo, 0, none⟩), .pointer (some ⟨bn, 0, none⟩), .pointer (some ⟨bq, 0, none⟩), .pointer (some ⟨bd, 0, none⟩), .pointer (some ⟨by_, 0, none⟩)] G M L (fun v M' L' => L = L' ∧ ∃ A m c, v = .slice A m c ∧ Bytes M' A m c (staR o name q.toNat d y i)) noPanic := by
  have hp2 := ho.p2
  have hn32 := ho.n32
  have hdl : d.length = p := by have := hd.len; simpa [intsL] using this
  obtain ⟨g, oo, rfl, hcell⟩ := hd.addr (by omega)
  have hyc := hy.le
  have hin : i * n + n ≤ n * p := by
    have := Nat.mul_le_mul_left n (show i + 1 ≤ p from hi)
    rw [Nat.mul_succ, Nat.mul_comm n i] at this
    omega
  have hin2 : n * p ≤ 32 * 265 := Nat.mul_le_mul hn32.2 hp2
  have hm1 : (i : Int) * (n : Int) = ((i * n : Nat) : Int) := by push_cast; rfl
  have hm2 : ((i : Int) + 1) * (n : Int) = ((i * n + n : Nat) : Int) := by rw [Int.add_mul, Int.one_mul, hm1]; push_cast; rfl
  have hsub := Bytes.sub hy (i * n) (i * n + n) (by omega) (by omega)
  rw [show i * n + n - i * n = n by omega] at hsub
  refine enter (args := [_, _, _, _, _, _]) (fn := Tryz.f27) ⟨Tryz.func27, rfl, by kernel_rfl, by kernel_rfl⟩ 30 rfl ?_
  refine x_seq (x_region ?_)
  refine tl_y rfl (y_assign rfl) ?_
  refine tl_nil (.then_normal ?_)
  refine x_seq ?_
  have he : Le M M := Le.refl _
  refine x_draw 23 hmix rfl ?_
  refine to_y 0 rfl (by kernel_rfl) rfl (y_loadAgg rfl rfl (.own inferInstance inferInstance)) ?_
  refine to_y 1 rfl (by kernel_rfl) rfl (y_load rfl rfl (.own inferInstance inferInstance)) ?_
  refine to_y 2 rfl (by kernel_rfl) rfl (y_load rfl rfl (.own inferInstance inferInstance)) ?_
  refine to_p 3 rfl (by kernel_rfl) rfl (y_move (v := .int _ _) rfl) ?_
  refine to_y 4 rfl (by kernel_rfl) rfl (y_load rfl rfl (.own inferInstance inferInstance)) ?_
  refine to_p 5 rfl (by kernel_rfl) rfl (y_move (v := .int _ _) rfl) ?_
  refine to_p 6 rfl (by kernel_rfl) rfl (y_indexAddrK i rfl rfl (by omega)) ?_
  refine to_y 7 rfl (by kernel_rfl) rfl (y_load rfl rfl (.at_ (hcell _ i _ (intsL_at (by omega))) (by omega))) ?_
  refine to_y 8 rfl (by kernel_rfl) rfl (y_loadAgg rfl rfl (.own inferInstance inferInstance)) ?_
  refine to_y 10 rfl (by kernel_rfl) rfl (y_load rfl rfl (.own inferInstance inferInstance)) ?_
  refine to_p 11 rfl (by kernel_rfl) rfl (y_move (v := .int _ _) rfl) ?_
  refine to_p 12 rfl (by kernel_rfl) rfl (y_fieldAddr rfl) ?_
  refine to_y 13 rfl (by kernel_rfl) rfl (y_load (v := .int .i64 (n : Int)) rfl rfl (by rw [← ho.hn]; exact .own inferInstance inferInstance)) ?_
  refine to_p 14 rfl (by kernel_rfl) rfl (y_mulI rfl rfl (by rw [hm1]; omega)) ?_
  rw [hm1]
  refine to_p 15 rfl (by kernel_rfl) rfl (y_move (v := .int _ _) rfl) ?_
  refine to_p 16 rfl (by kernel_rfl) rfl (y_addI rfl rfl (by omega)) ?_
  refine to_p 17 rfl (by kernel_rfl) rfl (y_fieldAddr rfl) ?_
  refine to_y 18 rfl (by kernel_rfl) rfl (y_load (v := .int .i64 (n : Int)) rfl rfl (by rw [← ho.hn]; exact .own inferInstance inferInstance)) ?_
  refine to_p 19 rfl (by kernel_rfl) rfl (y_mulI rfl rfl (by rw [hm2]; omega)) ?_
  rw [hm2]
  refine to_p 20 rfl (by kernel_rfl) rfl (y_sliceLH rfl rfl rfl (by omega) (by omega)) ?_
  rw [Int.toNat_natCast, Int.toNat_natCast, show i * n + n - i * n = n by omega]
  refine to_e 9 rfl (by kernel_rfl) rfl (e_call' rfl (otop_spec o ho) ?_)
  rintro _ _ _ _ ⟨rfl, rfl, rfl⟩
  refine ⟨⟨(by first | exact Le.refl _ | assumption), Keeps.mem⟩, ?_⟩
  refine to_e 21 rfl (by kernel_rfl) rfl (e_call' rfl (Up_spec' hg.sha hg.kec hg.set o hname hsub q i ((d.getD i 0 : Nat) : Int) (topN o)) ?_)
  rintro _ M3 _ hM3 ⟨rfl, A3, m3, c3, rfl, hA3⟩
  replace he := he.trans hM3
  refine ⟨⟨(by first | exact Le.refl _ | assumption), Keeps.mem⟩, ?_⟩
  refine to_p 22 rfl (by kernel_rfl) rfl (y_assign (v := .slice _ _ _) rfl) ?_
  refine to_nil (by kernel_rfl) (.then_normal ?_)
  refine .sub (F' := [(7, _)]) (.cons rfl .nil) ?_
  refine x_ret (ret1 rfl rfl he ⟨rfl, _, _, _, rfl, by rw [staR, ho.hn, Int.toNat_natCast]; exact hA3⟩)
/-- What a signature stands for, and with which code. -/
def staE (nl tl : Nat) (sig : List UInt8) : Int := if nl ≠ 16 ∨ tl > 65536 then 1 else (ofV sig).2
def staV (nl tl : Nat) (name : List UInt8) (q : Nat) (text sig : List UInt8) : List UInt8 := if staE nl tl sig = 0 then staB (ofV sig).1 name q text sig else []
theorem ofV_ok {bs : List UInt8} (h : (ofV bs).2 = 0) : okO (ofV bs).1 ∧ bs.length = sizeN (ofV bs).1 ∧ otsE (sigC bs) = 0 ∧ (ofV bs).1 = otsV (sigC bs) := by
  unfold ofV at h ⊢
  split at h
  · cases h
  · rename_i h1
    split at h
    · rename_i h2; exact absurd h h2
    · rename_i h2
      split at h
      · cases h
      · rename_i h3
        rw [if_neg h1, if_neg h2, if_neg h3]
        exact ⟨(otsV_code (Classical.not_not.1 h2)).2, Classical.not_not.1 h3, Classical.not_not.1 h2, rfl⟩
theorem oStands_spec (hg : ChG M) (hname : Bytes M NA nl nc name) (q : UInt32) (htext : Bytes M TA tl tc text) {A : Option Addr} {m c : Nat} {sig : List UInt8} (hsig : Bytes M A m c sig) :
    Con Tryz.prog 9 #[.slice NA nl nc, .int .u32 (q.toNat : Int), .slice TA tl tc, .slice A m c] G M L (fun v M' L' => L = L' ∧ ∃ A' m' c', v = .tuple #[.slice A' m' c', .int .i64 (staE nl tl sig)] ∧ Bytes M' A' m' c' (staV nl tl name q.toNat text sig)) noPanic := by
  have hsl := hsig.size
  have hsc := hsig.le
  refine enter (args := [_, _, _, _]) (fn := Tryz.f9) ⟨Tryz.func9, rfl, by kernel_rfl, by kernel_rfl⟩ 60 rfl ?_
  refine x_seq (x_region ?_)
  refine tl_e rfl (e_box rfl (fun b1 => ?_))
  refine tl_e rfl (e_box rfl (fun b2 => ?_))
  refine tl_y rfl (y_assign rfl) ?_
  refine tl_y rfl (y_assign rfl) ?_
  refine tl_nil (.then_normal ?_)
  refine .sub (F' := [(2, _), (3, _), (4, _), (5, _)]) (.cons rfl (.cons rfl (.cons rfl (.cons rfl .nil)))) ?_
  refine x_seq (x_seq (x_region ?_))
  refine tl_y rfl (y_load rfl rfl (.own inferInstance inferInstance)) ?_
  refine tl_y rfl (y_len rfl) ?_
  refine tl_y rfl (y_neq rfl rfl) ?_
  refine tl_y rfl (y_move (v := .bool _) rfl) ?_
  refine tl_cases (s := 19) rfl (fun hk1 => ?_) (fun hk1 => ?_)
  ·
    have hE1 : staE nl tl sig = 1 := by rw [staE, if_pos (.inl (by omega))]
    refine tl_skip rfl ?_
    refine tl_skip rfl ?_
    refine tl_skip rfl ?_
    refine tl_y rfl (y_pickT rfl rfl) ?_
    refine tl_nil (.then_normal ?_)
    refine .sub (F' := [(2, _), (3, _), (4, _), (5, _), (23, _)]) (.cons rfl (.cons rfl (.cons rfl (.cons rfl (.cons rfl .nil))))) ?_
    refine x_true rfl rfl ?_
    refine x_seq (x_region ?_)
    refine tl_y rfl (y_assign rfl) ?_
    refine tl_y rfl (y_assign rfl) ?_
    refine tl_nil (.then_normal ?_)
    refine .sub (F' := [(8, _), (9, _)]) (.cons rfl (.cons rfl .nil)) ?_
    refine x_ret (.then_ret (.dropTo L inferInstance (ret2 rfl rfl rfl (Le.refl _) ⟨rfl, none, 0, 0, by rw [hE1], by rw [staV, hE1, if_neg (by decide)]; exact Row.nil _ _⟩)))
  ·
    refine tl_y rfl (y_move (v := .slice _ _ _) rfl) ?_
    refine tl_y rfl (y_len rfl) ?_
    refine tl_y rfl (y_gtr rfl rfl) ?_
    refine tl_y rfl (y_pickF rfl rfl) ?_
    refine tl_nil (.then_normal ?_)
    refine .sub (F' := [(2, _), (3, _), (4, _), (5, _), (23, _)]) (.cons rfl (.cons rfl (.cons rfl (.cons rfl (.cons rfl .nil))))) ?_
    refine x_cond rfl (fun hc1 => ?_) (fun hc1 => ?_)
    ·
      have hE1 : staE nl tl sig = 1 := by rw [staE, if_pos (.inr (by omega))]
      refine x_seq (x_region ?_)
      refine tl_y rfl (y_assign rfl) ?_
      refine tl_y rfl (y_assign rfl) ?_
      refine tl_nil (.then_normal ?_)
      refine .sub (F' := [(8, _), (9, _)]) (.cons rfl (.cons rfl .nil)) ?_
      refine x_ret (.then_ret (.dropTo L inferInstance (ret2 rfl rfl rfl (Le.refl _) ⟨rfl, none, 0, 0, by rw [hE1], by rw [staV, hE1, if_neg (by decide)]; exact Row.nil _ _⟩)))
    ·
      have hn16 : nl = 16 := by omega
      have htl : tl ≤ 65536 := by omega
      have hE : staE nl tl sig = (ofV sig).2 := by rw [staE, if_neg (by omega)]
      refine x_skip (.then_normal ?_)
      refine x_seq (x_region ?_)
      refine tl_y rfl (y_move (v := .slice _ _ _) rfl) ?_
      refine tl_e rfl (e_call' rfl (oof_spec hg.set hsig) ?_)
      rintro _ M1 _ hM1 ⟨rfl, rfl⟩
      refine tl_y rfl (y_move (v := .tuple _) rfl) ?_
      refine tl_y rfl (y_extract rfl) ?_
      refine tl_y rfl (y_extract rfl) ?_
      refine tl_e rfl (e_alloc (fun b3 => ?_))
      refine tl_e rfl (e_store rfl rfl (by rfl) (by rfl) inferInstance inferInstance inferInstance ?_)
      refine tl_y rfl (y_assign (v := .int _ _) rfl) ?_
      refine tl_nil (.then_normal ?_)
      refine .sub (F' := [(2, _), (3, _), (4, _), (5, _), (10, _), (11, _)]) (.cons rfl (.cons rfl (.cons rfl (.cons rfl (.cons rfl (.cons rfl .nil)))))) ?_
      refine x_seq (x_seq (x_region ?_))
      refine tl_y rfl (y_move (v := .int _ _) rfl) ?_
      refine tl_y rfl (y_neq rfl rfl) ?_
      refine tl_nil (.then_normal ?_)
      refine x_cond rfl (fun hc2 => ?_) (fun hc2 => ?_)
      ·
        refine x_seq (x_region ?_)
        refine tl_y rfl (y_move (v := .int _ _) rfl) ?_
        refine tl_y rfl (y_assign rfl) ?_
        refine tl_y rfl (y_assign (v := .int _ _) rfl) ?_
        refine tl_nil (.then_normal ?_)
        refine .sub (F' := [(8, _), (9, _)]) (.cons rfl (.cons rfl .nil)) ?_
        refine x_ret (.then_ret (.dropTo L inferInstance (ret2 rfl rfl rfl hM1 ⟨rfl, none, 0, 0, by rw [hE], by rw [staV, hE, if_neg hc2]; exact Row.nil _ _⟩)))
      ·
        have he0 : (ofV sig).2 = 0 := Classical.not_not.1 hc2
        obtain ⟨hok, hlen, _, _⟩ := ofV_ok he0
        obtain ⟨o, hoe⟩ : ∃ o, o = (ofV sig).1 := ⟨_, rfl⟩
        rw [← hoe] at hok hlen ⊢
        obtain ⟨n, w, p, ho⟩ := okO_facts hok
        obtain ⟨hz1, hz2, hz3⟩ := ho.size
        have hn32 := ho.n32
        have hp2 := ho.p2
        have hsalt := Bytes.sub hsig 4 (4 + n) (by omega) (by omega)
        rw [show 4 + n - 4 = n by omega] at hsalt
        have hyy := Bytes.sub hsig (4 + n) m (by omega) (by omega)
        rw [List.take_of_length_le (by rw [List.length_drop]; omega)] at hyy
        have hts := htext.size
        refine x_skip (.then_normal ?_)
        refine x_seq ?_
        refine x_draw 12 hmix rfl ?_
        refine to_p 0 rfl (by kernel_rfl) rfl (y_move (v := .slice _ _ _) rfl) ?_
        refine to_p 1 rfl (by kernel_rfl) rfl (y_fieldAddr rfl) ?_
        refine to_y 2 rfl (by kernel_rfl) rfl (y_load (v := .int .i64 (n : Int)) rfl rfl (by rw [← ho.hn]; exact .own inferInstance inferInstance)) ?_
        refine to_p 3 rfl (by kernel_rfl) rfl (y_addI rfl rfl (by omega)) ?_
        refine to_p 4 rfl (by kernel_rfl) rfl (y_sliceLH rfl rfl rfl (by omega) (by omega)) ?_
        rw [show ((4 : Int) + (n : Int)).toNat = 4 + n by omega, show (4 : Int).toNat = 4 from rfl, show 4 + n - 4 = n by omega]
        refine to_p 5 rfl (by kernel_rfl) rfl (y_move (v := .slice _ _ _) rfl) ?_
        refine to_p 6 rfl (by kernel_rfl) rfl (y_fieldAddr rfl) ?_
        refine to_y 7 rfl (by kernel_rfl) rfl (y_load (v := .int .i64 (n : Int)) rfl rfl (by rw [← ho.hn]; exact .own inferInstance inferInstance)) ?_
        refine to_p 8 rfl (by kernel_rfl) rfl (y_addI rfl rfl (by omega)) ?_
        refine to_p 9 rfl (by kernel_rfl) rfl (y_sliceL rfl rfl (by omega)) ?_
        rw [show ((4 : Int) + (n : Int)).toNat = 4 + n by omega]
        refine to_e 10 rfl (by kernel_rfl) rfl (e_alloc (fun b4 => ?_))
        refine ⟨⟨(by first | exact Le.refl _ | assumption), Keeps.mem⟩, ?_⟩
        refine to_p 11 rfl (by kernel_rfl) rfl (y_assign (v := .slice _ _ _) rfl) ?_
        refine to_t 12 rfl (by kernel_rfl) (by kernel_rfl) rfl (e_store rfl rfl (by rfl) (by rfl) inferInstance inferInstance inferInstance ?_)
        refine to_nil (by kernel_rfl) (.then_normal ?_)
        refine .sub (F' := [(2, _), (4, _), (5, _), (10, _), (12, _), (13, _)]) (.cons rfl (.cons rfl (.cons rfl (.cons rfl (.cons rfl (.cons rfl .nil)))))) ?_
        refine x_seq (x_region ?_)
        refine tl_y rfl (y_loadAgg rfl rfl (.own inferInstance inferInstance)) ?_
        refine tl_y rfl (y_load rfl rfl (.own inferInstance inferInstance)) ?_
        refine tl_y rfl (y_load rfl rfl (.own inferInstance inferInstance)) ?_
        refine tl_y rfl (y_move (v := .slice _ _ _) rfl) ?_
        refine tl_y rfl (y_move (v := .slice _ _ _) rfl) ?_
        refine tl_e rfl (e_call' rfl (osum_spec (hg.mono hM1) o ho (hname.mono hM1) hn16 q (hsalt.mono hM1) (htext.mono hM1) (by omega) (by omega)) ?_)
        rintro _ M3 _ hM3 ⟨rfl, A3, c3, rfl, hr3⟩
        have hd := hM1.trans hM3
        obtain ⟨ds, hds⟩ : ∃ ds, ds = digO o name q.toNat ((sig.drop 4).take n) text := ⟨_, rfl⟩
        rw [← hds] at hr3
        refine tl_e rfl (e_alloc (fun b5 => ?_))
        refine tl_e rfl (e_store rfl rfl (by rfl) (by rfl) inferInstance inferInstance inferInstance ?_)
        refine tl_nil (.then_normal ?_)
        refine .sub (F' := [(4, _), (5, _), (10, _), (13, _), (14, _)]) (.cons rfl (.cons rfl (.cons rfl (.cons rfl (.cons rfl .nil))))) ?_
        refine x_seq (x_region ?_)
        refine tl_y rfl (y_loadAgg rfl rfl (.own inferInstance inferInstance)) ?_
        refine tl_y rfl (y_makeFunc rfl rfl) ?_
        refine tl_e rfl (e_call' rfl (oall_spec o ho.hp (by omega) (rows := staR o name q.toNat ds (sig.drop (4 + n))) (staR_le ho name q.toNat ds (sig.drop (4 + n))) (fun i M2 X hi hM2 hX => by
          haveI i1 : Has X b3 (.cells (List.toArray o.cells) 31 (0, 0)) := ⟨hX _ (Has.mem)⟩
          haveI i2 : Has X b1 (.cells (List.toArray [.slice NA nl nc]) 22 (0, 0)) := ⟨hX _ (Has.mem)⟩
          haveI i3 : Has X b2 (.cells (List.toArray [.int .u32 (q.toNat : Int)]) 23 (0, 0)) := ⟨hX _ (Has.mem)⟩
          haveI i4 : Has X b5 (.cells (List.toArray [.slice A3 p c3]) 51 (0, 0)) := ⟨hX _ (Has.mem)⟩
          haveI i5 : Has X b4 (.cells (List.toArray [.slice (sl A (4 + n) c 1) (m - (4 + n)) (c - (4 + n))]) 22 (0, 0)) := ⟨hX _ (Has.mem)⟩
          exact oStands1_spec ((hg.mono hd).mono hM2) o ho ((hname.mono hd).mono hM2) q (hr3.mono hM2) ((hyy.mono hd).mono hM2) (by omega) i hi)) ?_)
        rintro _ M4 _ hM4 ⟨rfl, A4, m4, c4, rfl, hA4⟩
        replace hd := hd.trans hM4
        have hm4 := hA4.size
        have hle := catR_le (staR_le ho name q.toNat ds (sig.drop (4 + n))) p
        refine tl_y rfl (y_assign (v := .slice _ _ _) rfl) ?_
        refine tl_nil (.then_normal ?_)
        refine .sub (F' := [(4, _), (5, _), (10, _), (15, _)]) (.cons rfl (.cons rfl (.cons rfl (.cons rfl .nil)))) ?_
        refine x_seq (x_region ?_)
        refine tl_y rfl (y_fieldAddr rfl) ?_
        refine tl_y rfl (y_load rfl rfl (.own inferInstance inferInstance)) ?_
        refine tl_y rfl (y_fieldAddr rfl) ?_
        refine tl_y rfl (y_load rfl rfl (.own inferInstance inferInstance)) ?_
        refine tl_y rfl (y_load rfl rfl (.own inferInstance inferInstance)) ?_
        refine tl_y rfl (y_load rfl rfl (.own inferInstance inferInstance)) ?_
        refine tl_y rfl (y_move (v := .slice _ _ _) rfl) ?_
        refine tl_e rfl (e_buildSlice rfl (by decide) (fun b7 => ?_))
        refine .pub b7 inferInstance (fun M5 hM5 hb7 => ?_)
        replace hd := hd.trans hM5
        refine tl_e rfl (e_call' rfl (Part_spec (hg.mono hd).sha (hg.mono hd).kec o.kind o.n (hname.mono hd) q 32896 (by omega) (Row.whole hb7 rfl (by omega)) (.cons (hA4.mono hM5) .nil) (by simp only [List.flatten_cons, List.flatten_nil, List.length_append, List.length_nil]; omega)) ?_)
        rintro _ M6 _ hM6 ⟨rfl, A6, m6, c6, rfl, hA6⟩
        rw [show [catR (staR o name q.toNat ds (sig.drop (4 + n))) p].flatten = catR (staR o name q.toNat ds (sig.drop (4 + n))) p by simp] at hA6
        refine tl_y rfl (y_assign (v := .slice _ _ _) rfl) ?_
        refine tl_y rfl (y_assign rfl) ?_
        refine tl_nil (.then_normal ?_)
        refine .sub (F' := [(8, _), (9, _)]) (.cons rfl (.cons rfl .nil)) ?_
        refine x_ret (.dropTo L inferInstance (ret2 rfl rfl rfl (hd.trans hM6) ⟨rfl, _, _, _, by rw [hE, he0], by
          rw [staV, hE, if_pos he0, ← hoe, staB, show o.n.toNat = n by rw [ho.hn]; rfl, show o.p.toNat = p by rw [ho.hp]; rfl, ← hds]
          exact hA6⟩))
end
end Go.Proofs.YtbjnjedfoiedeaaGreatDoor
