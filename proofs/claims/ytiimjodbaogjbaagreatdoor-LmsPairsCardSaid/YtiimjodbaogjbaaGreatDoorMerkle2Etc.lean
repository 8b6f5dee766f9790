/-
Contracts of functions, each proved by a walk through its code.
-/
import Derived.Test.YtiimjodbaogjbaaGreatDoorOnce1Etc
import Derived.Test.YtiimjodbaogjbaaGreatDoorChain3Etc
import Derived.Test.YtiimjodbaogjbaaGreatDoorEngXEtc
set_option linter.unusedVariables false
set_option linter.unusedSimpArgs false
set_option linter.constructorNameAsVariable false
namespace Go.Proofs.YtiimjodbaogjbaaGreatDoor
open Go Go.Eng
def RowsAt (M : Mem) (ws : List Value) (f : Nat → List (List UInt8)) : Prop := ∀ h, h < ws.length → ∃ A n c vs, ws[h]? = some (.slice A n c) ∧ Row M 1 A n c vs ∧ BRows M vs (f h)
theorem RowsAt.mono {M M' : Mem} {ws : List Value} {f : Nat → List (List UInt8)} (h : RowsAt M ws f) (hle : Le M M') : RowsAt M' ws f := fun i hi =>
  let ⟨A, n, c, vs, h1, h2, h3⟩ := h i hi
  ⟨A, n, c, vs, h1, h2.mono hle, h3.mono hle⟩
theorem RowsAt.snoc {M : Mem} {ws : List Value} {f : Nat → List (List UInt8)} (h : RowsAt M ws f) {A : Option Addr} {n c : Nat} {vs : List Value} (h2 : Row M 1 A n c vs) (h3 : BRows M vs (f ws.length)) : RowsAt M (ws ++ [.slice A n c]) f := fun i hi => by
  rw [List.length_append, List.length_singleton] at hi
  by_cases hlt : i < ws.length
  · obtain ⟨A', n', c', vs', h4, h5, h6⟩ := h i hlt
    exact ⟨A', n', c', vs', by rw [List.getElem?_append_left hlt]; exact h4, h5, h6⟩
  · obtain rfl : i = ws.length := by omega
    exact ⟨A, n, c, vs, by rw [List.getElem?_append_right (Nat.le_refl _), Nat.sub_self]; rfl, h2, h3⟩
section
variable {G : World} {M : Mem} {L : Own}
theorem pairs_spec {A : Option Addr} {n c : Nat} :
    Con Tryz.prog 185 #[.slice A n c] G M L (fun v M' L' => M = M' ∧ ∃ x0, L' = (x0, .cells (List.toArray [.slice A n c]) 121 (0, 0)) :: L ∧ v = .func (.func 215) (List.toArray []) (List.toArray [.pointer (some ⟨x0, 0, none⟩)])) noPanic := by
  refine enter (args := [_]) (fn := Tryz.f185) ⟨Tryz.func185, rfl, by kernel_rfl, by kernel_rfl⟩ 4 rfl ?_
  refine x_seq (x_region ?_)
  refine tl_e rfl (e_box rfl (fun b1 => ?_))
  refine tl_y rfl (y_assign rfl) ?_
  refine tl_nil (.then_normal ?_)
  refine x_seq (x_region ?_)
  refine tl_y rfl (y_makeFunc rfl rfl) ?_
  refine tl_y rfl (y_assign (v := .func _ _ _) rfl) ?_
  refine tl_nil (.then_normal ?_)
  refine x_ret (ret1 rfl rfl (Le.refl _) ⟨rfl, b1, rfl, rfl⟩)
theorem pairs1_spec {l x0 : Nat} {A : Option Addr} {n c : Nat} {vs : List Value} {bss : List (List UInt8)} {X0 : Own} (hr : Row M 1 A n c vs) (hb : BRows M vs bss) (hn : n ≤ 1000000000000) {Inv : Nat → Mem → Own → Prop} {Dn : Mem → Own → Prop}
    (hy : ∀ k M1 X1 A1 n1 c1 A2 n2 c2, 2 * k + 1 < n → Bytes M A1 n1 c1 (bss.getD (2 * k) []) → Bytes M A2 n2 c2 (bss.getD (2 * k + 1) []) → Le M M1 → Inv k M1 X1 → YCon Tryz.prog l [.int .i64 (k : Nat), .agg (List.toArray [.slice A1 n1 c1, .slice A2 n2 c2])] G M1 X1 (Inv (k + 1)) Dn) (h0 : Inv 0 M X0) :
    Con Tryz.prog 215 #[.func (.yield l) (List.toArray []) (List.toArray []), .pointer (some ⟨x0, 0, none⟩)] G M ((x0, .cells (List.toArray [.slice A n c]) 121 (0, 0)) :: X0)
      (fun v M' L' => ∃ X', L' = (x0, .cells (List.toArray [.slice A n c]) 121 (0, 0)) :: X' ∧ (Inv (n / 2) M' X' ∨ Dn M' X')) noPanic := by
  have hmx := hr.max
  have hle := hr.le
  have hvl := hb.len
  have hnl : vs.length = n := by have := hr.len; omega
  refine enter (args := [_, _]) (fn := Tryz.f215) ⟨Tryz.func215, rfl, by kernel_rfl, by kernel_rfl⟩ 26 rfl ?_
  refine x_seq (x_region ?_)
  refine tl_y rfl (y_assign rfl) ?_
  refine tl_nil (.then_normal ?_)
  refine x_block ?_
  refine x_loop (I := fun m' F D M1 L1 => ∃ (k : Nat) (X1 : Own), m' = n / 2 - k ∧ k ≤ n / 2 ∧ Le M M1 ∧ Inv k M1 X1 ∧ D = [] ∧ L1 = (x0, .cells (List.toArray [.slice A n c]) 121 (0, 0)) :: X1 ∧ F = [(0, .func (.yield l) (List.toArray []) (List.toArray [])), (1, .pointer (some ⟨x0, 0, none⟩)), (3, .int .i64 ((2 * k : Nat) : Int))]) (n / 2) (F0 := [(0, _), (1, _), (3, _)]) ?_ (.cons rfl (.cons rfl (.cons rfl .nil))) ?_  -- slots [0, 1, 3], written [3]
  · exact ⟨0, X0, rfl, by omega, Le.refl _, h0, rfl, rfl, rfl⟩
  rintro m _ _ M1 L1 ⟨k, X1, rfl, hk, hM1, hI, rfl, rfl, rfl⟩
  refine x_seq (x_seq (x_region ?_))
  refine tl_y rfl (y_move (v := .int _ _) rfl) ?_
  refine tl_y rfl (y_addI rfl rfl (by omega)) ?_
  refine tl_y rfl (y_load rfl rfl (.own inferInstance inferInstance)) ?_
  refine tl_y rfl (y_len rfl) ?_
  refine tl_y rfl (y_lss rfl rfl) ?_
  refine tl_nil (.then_normal ?_)
  refine .sub (F' := [(0, _), (1, _), (3, _), (8, _)]) (.cons rfl (.cons rfl (.cons rfl (.cons rfl .nil)))) ?_
  refine x_cond rfl (fun hc1 => ?_) (fun hc1 => ?_)
  ·
    have hkn : 2 * k + 1 < n := by omega
    obtain ⟨g, o, rfl, hcell⟩ := (hr.mono hM1).addr (by omega)
    obtain ⟨A1, n1, c1, hv1, hb1⟩ := hb.get (2 * k) (by omega)
    obtain ⟨A2, n2, c2, hv2, hb2⟩ := hb.get (2 * k + 1) (by omega)
    refine x_skip (.then_normal ?_)
    refine x_seq ?_
    refine x_block ?_
    refine x_seq ?_
    refine x_draw0 15 ([(x0, .cells (List.toArray [.slice (some ⟨g, o, none⟩) n c]) 121 (0, 0))]) Keeps.mem hmix rfl ?_
    refine to_p 0 rfl (by kernel_rfl) rfl (y_move (v := .func _ _ _) rfl) ?_
    refine to_p 1 rfl (by kernel_rfl) rfl (y_move (v := .int _ _) rfl) ?_
    refine to_p 2 rfl (by kernel_rfl) rfl (y_quoI rfl rfl (by omega)) ?_
    rw [show ((2 * k : Nat) : Int) / 2 = (k : Int) by omega]
    refine to_y 3 rfl (by kernel_rfl) rfl (y_load rfl rfl (.own inferInstance inferInstance)) ?_
    refine to_p 4 rfl (by kernel_rfl) rfl (y_move (v := .int _ _) rfl) ?_
    refine to_p 5 rfl (by kernel_rfl) rfl (y_indexAddr rfl rfl (by omega)) ?_
    refine to_y 6 rfl (by kernel_rfl) rfl (y_load rfl rfl (.at_ (hcell _ (2 * k) _ hv1) (by omega))) ?_
    refine to_y 7 rfl (by kernel_rfl) rfl (y_load rfl rfl (.own inferInstance inferInstance)) ?_
    refine to_p 8 rfl (by kernel_rfl) rfl (y_move (v := .int _ _) rfl) ?_
    refine to_p 9 rfl (by kernel_rfl) rfl (y_addI rfl rfl (by omega)) ?_
    refine to_p 10 rfl (by kernel_rfl) rfl (y_indexAddr rfl rfl (by omega)) ?_
    refine to_y 11 rfl (by kernel_rfl) rfl (y_load rfl rfl (.at_ (hcell _ (2 * k + 1) _ hv2) (by omega))) ?_
    refine to_p 12 rfl (by kernel_rfl) rfl (y_buildArr rfl) ?_
    refine to_e 13 rfl (by kernel_rfl) rfl (e_yieldB (R := [(x0, .cells (List.toArray [.slice (some ⟨g, o, none⟩) n c]) 121 (0, 0))]) (X := X1) rfl rfl (hy k M1 X1 _ _ _ _ _ _ hkn hb1 hb2 hM1 hI) (fun b M2 X2 hM2 hb => ?_))
    rw [List.singleton_append]
    refine ⟨⟨(by first | exact Le.refl _ | assumption), Keeps.mem⟩, ?_⟩
    refine to_p 14 rfl (by kernel_rfl) rfl (y_not rfl) ?_
    refine to_nil (by kernel_rfl) (.then_normal ?_)
    refine .sub (F' := [(0, _), (1, _), (3, _), (25, _)]) (.cons rfl (.cons rfl (.cons rfl (.cons rfl .nil)))) ?_
    refine x_condb rfl (fun hc2 => ?_) (fun hc2 => ?_)
    ·
      refine x_ret (.block_ret (.then_ret (.loop_ret (.block_ret (ret0 rfl (hM1.trans hM2) ⟨X2, rfl, by
        rcases hb with ⟨rfl, _⟩ | ⟨_, hb⟩
        · simp at hc2
        · exact .inr hb⟩)))))
    ·
      refine x_skip (.block_normal (.then_normal ?_))
      refine x_region ?_
      refine tl_y rfl (y_move (v := .int _ _) rfl) ?_
      refine tl_y rfl (y_addI rfl rfl (by omega)) ?_
      rw [show ((2 * k : Nat) : Int) + 2 = ((2 * (k + 1) : Nat) : Int) by omega]
      refine tl_y rfl (y_assign (v := .int _ _) rfl) ?_
      refine tl_nil (.loop_next (m' := n / 2 - (k + 1)) (by omega) (F' := [(0, _), (1, _), (3, _)]) (.cons rfl (.cons rfl (.cons rfl .nil))) ?_)
      exact ⟨k + 1, X2, rfl, by omega, hM1.trans hM2, by
        rcases hb with ⟨_, hb⟩ | ⟨rfl, hb⟩
        · exact hb
        · simp at hc2, rfl, rfl, rfl⟩
  ·
    refine x_exit (.then_exit (.loop_exit (.block_exit (end0 rfl hM1 ⟨X1, rfl, .inl (by
      obtain rfl : k = n / 2 := by omega
      exact hI)⟩))))
end
end Go.Proofs.YtiimjodbaogjbaaGreatDoor
set_option linter.unusedVariables false
set_option linter.unusedSimpArgs false
set_option linter.constructorNameAsVariable false
namespace Go.Proofs.YtiimjodbaogjbaaGreatDoor
open Go Go.Eng
theorem tr_y {P : Program} {n : Nat} {Q : Post} {F : Fr} {D : List Deferred} {G : World} {M : Mem} {L : Own} {d : Tmp} {op : Op} {ty : TypeId} {v : Value} {K : Fr → List Deferred → Mem → Own → Prop} (hy : Yld P op ty F M L v) (h : K ((d, v) :: F) D M L) : Tr P n (some d) op ty Q F D G M L K := fun hok w a hw ha => by
  have hd : d < n := by simp only [okOp, Nat.blt_eq] at hok; exact hok
  exact hy.wpIn hw.sees (fun x u hx => ha.eval hx) ⟨_, D, M, L, ha.put hd v, hw, h⟩
def marksB (rs : List Nat) : Own := rs.map fun r => (r, .deferred (some []))
theorem lv_marks {P : Program} {F : Fr} {G : World} {M M0 : Mem} {K : Value → Mem → Own → Prop} {Kp : List PanicEntry → Mem → Own → Prop} {fn : Func} {v : Value} {L' L1 : Own} (hv : RV P fn F M L' v) (hd : DropTo L' L1) (hle : Le M0 M) (hK : K v M L1) (tmps : Array Value) (ht : ∀ i u, Eng.look F i = some u → tmps.getD i undef = u) :
    ∀ (rs : List Nat) (w : World), St G M (marksB rs ++ L') w → Lv P fn tmps (RR G M0 K Kp) (rs.map Eng.mark) .returning w
  | [], w, hw => lv_end hv hd hle hK w hw tmps ht
  | r :: rs, w, hw => by
    have hw' : St G M ((r, .deferred (some [])) :: (marksB rs ++ L')) w := hw
    exact ⟨by simp, r, rfl, (hw'.own _ List.mem_cons_self).1, lv_marks hv hd hle hK tmps ht rs _ (hw'.setObj (o' := .deferred none)).drop⟩
theorem _root_.Go.Eng.TQ.retMs {P : Program} {F : Fr} {G : World} {M M0 : Mem} {K : Value → Mem → Own → Prop} {Kp : List PanicEntry → Mem → Own → Prop} {fn : Func} {v : Value} {L L' L1 : Own} {rs : List Nat} (hs : PermTo L (marksB rs ++ L')) (hv : RV P fn F M L' v) (hd : DropTo L' L1) (hle : Le M0 M) (hK : K v M L1) : TQ (retMQ P fn G M0 K Kp) .ret F (rs.map Eng.mark) G M L := fun w hw tmps ht =>
  lv_marks hv hd hle hK tmps ht rs w (hw.perm hs.perm)
section
variable {G : World} {M : Mem} {L : Own}
theorem rows_spec (hg : MrG M) (t : TreeV) {H : Nat} (hH : t.h = (H : Int)) (hH5 : H ≤ 20) {NA : Option Addr} {nl nc : Nat} {name : List UInt8} (hname : Bytes M NA nl nc name) {KA : Option Addr} {kl kc : Nat} {kvs : List Value} {keys : List (List UInt8)} (hk : Row M 1 KA kl kc kvs) (hkb : BRows M kvs keys) (hkl : kl = pw2 H) (hks : ∀ b ∈ keys, b.length ≤ 1000000000000) :
    Con Tryz.prog 143 #[.agg (List.toArray t.cells), .slice NA nl nc, .slice KA kl kc] G M L (fun v M' L' => L = L' ∧ ∃ A' c' ws, v = .slice A' (H + 1) c' ∧ Row M' 1 A' (H + 1) c' ws ∧ RowsAt M' ws (lvl t name keys)) noPanic := by
  have hp := pw2_25 (h := H) (by omega)
  have hmx := hk.max
  have hle := hk.le
  have hvl := hkb.len
  have hkn : kvs.length = kl := by have := hk.len; omega
  refine enterM (args := [_, _, _]) (fn := Tryz.f143) ⟨Tryz.func143, rfl, by kernel_rfl, by kernel_rfl⟩ 62 rfl ?_
  refine x_seq (x_region ?_)
  refine tl_e rfl (e_box rfl (fun b1 => ?_))
  refine tl_e rfl (e_box rfl (fun b2 => ?_))
  refine tl_y rfl (y_assign rfl) ?_
  refine tl_nil (.then_normal ?_)
  refine x_seq (x_region ?_)
  refine tl_e rfl (e_alloc (fun b3 => ?_))
  refine tl_nil (.then_normal ?_)
  refine x_seq (x_seq (x_region ?_))
  refine tl_y rfl (y_move (v := .slice _ _ _) rfl) ?_
  refine tl_y rfl (y_len rfl) ?_
  refine tl_y rfl (y_move rfl) ?_
  refine tl_nil (.then_normal ?_)
  refine .sub (F' := [(3, _), (4, _), (7, _), (14, _), (15, _), (16, _)]) (.cons rfl (.cons rfl (.cons rfl (.cons rfl (.cons rfl (.cons rfl .nil)))))) ?_
  refine x_block ?_
  refine x_loop (I := fun m' F D M1 L1 => ∃ (k : Nat) (A1 : Option Addr) (c1 : Nat) (E : Own) (vs : List Value), m' = kl - k ∧ k ≤ kl ∧ Le M M1 ∧ OwnRow 35 1 A1 k c1 vs E ∧ BRows M1 vs (leavesB t name keys k) ∧ D = [] ∧ L1 = (b3, .cells (List.toArray [.slice A1 k c1]) 121 (0, 0)) :: (E ++ ((b2, .cells (List.toArray [.slice NA nl nc]) 35 (0, 0)) :: (b1, .cells (List.toArray t.cells) 29 (0, 0)) :: L)) ∧ F = [(3, .pointer (some ⟨b1, 0, none⟩)), (4, .pointer (some ⟨b2, 0, none⟩)), (7, .pointer (some ⟨b3, 0, none⟩)), (14, .slice KA kl kc), (15, .int .i64 kl), (16, .int .i64 k)]) (kl) (F0 := [(3, _), (4, _), (7, _), (14, _), (15, _), (16, _)]) ?_ (.cons rfl (.cons rfl (.cons rfl (.cons rfl (.cons rfl (.cons rfl .nil)))))) ?_  -- slots [3, 4, 7, 14, 15, 16], written [16]
  · exact ⟨0, none, 0, [], [], rfl, by omega, Le.refl _, .nil, .nil, rfl, rfl, rfl⟩
  rintro m _ _ M1 L1 ⟨k, A1, c1, E, vs, rfl, hkk, hd, hE, hB, rfl, rfl, rfl⟩
  refine x_seq (x_region ?_)
  refine tl_y rfl (y_lss rfl rfl) ?_
  refine tl_nil (.then_normal ?_)
  refine x_seq ?_
  refine x_cond rfl (fun hc1 => ?_) (fun hc1 => ?_)
  ·
    have hkn : k < kl := by omega
    obtain ⟨g, o, rfl, hcell⟩ := (hk.mono hd).addr (by omega)
    obtain ⟨A2, n2, c2, hv2, hb2⟩ := hkb.get k (by omega)
    have hn2 := hb2.size
    have hb2l := hks _ (getD_mem keys k [] (by omega))
    obtain ⟨q, hq⟩ : ∃ q : UInt32, q.toNat = k := ⟨UInt32.ofNat k, by rw [UInt32.toNat_ofNat', Nat.mod_eq_of_lt (by omega)]⟩
    refine x_skip (.then_normal ?_)
    refine x_seq ?_
    refine x_block ?_
    refine x_seq (x_region ?_)
    refine tl_y rfl (y_move (v := .int _ _) rfl) ?_
    refine tl_y rfl (y_indexAddr rfl rfl (by omega)) ?_
    refine tl_y rfl (y_load rfl rfl (.at_ (hcell _ k _ hv2) (by omega))) ?_
    refine tl_y rfl (y_assign (v := .int _ _) rfl) ?_
    refine tl_y rfl (y_assign (v := .slice _ _ _) rfl) ?_
    refine tl_nil (.then_normal ?_)
    refine .sub (F' := [(3, _), (4, _), (7, _), (8, _), (9, _), (14, _), (15, _), (16, _)]) (.cons rfl (.cons rfl (.cons rfl (.cons rfl (.cons rfl (.cons rfl (.cons rfl (.cons rfl .nil)))))))) ?_
    have he : Le M1 M1 := Le.refl _
    refine x_draw 8 hmix rfl ?_
    refine to_y 0 rfl (by kernel_rfl) rfl (y_load rfl rfl (.own inferInstance inferInstance)) ?_
    refine to_y 1 rfl (by kernel_rfl) rfl (y_loadAgg rfl rfl (.own inferInstance inferInstance)) ?_
    refine to_y 2 rfl (by kernel_rfl) rfl (y_load rfl rfl (.own inferInstance inferInstance)) ?_
    refine to_p 3 rfl (by kernel_rfl) rfl (y_move (v := .int _ _) rfl) ?_
    refine to_p 4 rfl (by kernel_rfl) rfl (y_convN32 rfl (by omega)) ?_
    rw [show ((k : Nat) : Int) = ((q.toNat : Nat) : Int) by rw [hq]]
    refine to_p 5 rfl (by kernel_rfl) rfl (y_move (v := .slice _ _ _) rfl) ?_
    refine to_e 6 rfl (by kernel_rfl) rfl (e_call' rfl (leaf_spec (hg.mono hd) t hH (by omega) (hname.mono hd) q (by omega) (hb2.mono hd) (by omega)) ?_)
    rintro _ M3 _ hM3 ⟨rfl, A3, m3, c3, rfl, hA3⟩
    rw [hq] at hA3
    replace he := he.trans hM3
    refine ⟨⟨he, Keeps.mem⟩, ?_⟩
    refine to_e 7 rfl (by kernel_rfl) rfl (e_buildSlice rfl (by decide) (fun b4 => ?_))
    refine ⟨⟨he, Keeps.mem⟩, ?_⟩
    refine .pub b4 inferInstance (fun M4 hM4 hb4 => ?_)
    replace he := he.trans hM4
    refine .to (E ++ ((b3, .cells (List.toArray [.slice A1 k c1]) 121 (0, 0)) :: (b2, .cells (List.toArray [.slice NA nl nc]) 35 (0, 0)) :: (b1, .cells (List.toArray t.cells) 29 (0, 0)) :: L)) inferInstance ?_
    refine to_t 8 rfl (by kernel_rfl) (by kernel_rfl) rfl (e_append (by decide) rfl rfl hE (.row (Row.whole (s := 1) hb4 rfl (by omega))) rfl (by omega) (by omega) (fun A5 c5 E5 hE5 => ?_))
    refine to_t 9 rfl (by kernel_rfl) (by kernel_rfl) rfl (e_store rfl rfl (by rfl) (by rfl) inferInstance inferInstance inferInstance ?_)
    refine to_nil (by kernel_rfl) (.block_normal (.then_normal ?_))
    refine .sub (F' := [(3, _), (4, _), (7, _), (14, _), (15, _), (16, _)]) (.cons rfl (.cons rfl (.cons rfl (.cons rfl (.cons rfl (.cons rfl .nil)))))) ?_
    refine x_region ?_
    refine tl_y rfl (y_addI rfl rfl (by omega)) ?_
    rw [show ((q.toNat : Nat) : Int) + 1 = ((k + 1 : Nat) : Int) by rw [hq]; omega]
    refine tl_y rfl (y_move (v := .int _ _) rfl) ?_
    refine .to ((b3, .cells (List.toArray [.slice A5 (k + 1) c5]) 121 (0, 0)) :: (E5 ++ ((b2, .cells (List.toArray [.slice NA nl nc]) 35 (0, 0)) :: (b1, .cells (List.toArray t.cells) 29 (0, 0)) :: L))) inferInstance ?_
    refine tl_nil (.loop_next (m' := kl - (k + 1)) (by omega) (F' := [(3, _), (4, _), (7, _), (14, _), (15, _), (16, _)]) (.cons rfl (.cons rfl (.cons rfl (.cons rfl (.cons rfl (.cons rfl .nil)))))) ?_)
    exact ⟨k + 1, A5, c5, E5, _, rfl, by omega, hd.trans he, hE5, by
      rw [leavesB_succ]
      exact (hB.mono he).snoc (hA3.mono hM4), rfl, rfl, rfl⟩
  ·
    obtain rfl : k = kl := by omega
    have hkk2 : keys.length = k := by omega
    refine .to (E ++ ((b3, .cells (List.toArray [.slice A1 k c1]) 121 (0, 0)) :: (b2, .cells (List.toArray [.slice NA nl nc]) 35 (0, 0)) :: (b1, .cells (List.toArray t.cells) 29 (0, 0)) :: L)) inferInstance ?_
    refine .pubRow hE (fun M2 hM2 hrow => ?_)
    replace hd := hd.trans hM2
    replace hB : BRows M2 vs (lvl t name keys 0) := by rw [lvl, hkk2]; exact hB.mono hM2
    refine x_exit (.then_exit (.loop_exit (.block_exit (.then_normal ?_))))
    refine .sub (F' := [(3, _), (4, _), (7, _)]) (.cons rfl (.cons rfl (.cons rfl .nil))) ?_
    refine x_seq (x_region ?_)
    refine tl_y rfl (y_load rfl rfl (.own inferInstance inferInstance)) ?_
    refine tl_e rfl (e_buildSlice rfl (by decide) (fun b5 => ?_))
    refine tl_y rfl (y_assign (v := .slice _ _ _) rfl) ?_
    refine .to ((b3, .cells (List.toArray [.slice A1 k c1]) 121 (0, 0)) :: (b5, .cells (List.toArray [.slice A1 k c1]) 121 (0, 0)) :: (b2, .cells (List.toArray [.slice NA nl nc]) 35 (0, 0)) :: (b1, .cells (List.toArray t.cells) 29 (0, 0)) :: L) inferInstance ?_
    refine tl_nil (.then_normal ?_)
    refine x_seq ?_
    refine x_block ?_
    refine x_loop (I := fun m' F D M1 L1 => ∃ (h : Nat) (rs : List Nat) (A1 : Option Addr) (n1 c1 : Nat) (vs : List Value) (OA : Option Addr) (oc : Nat) (OE : Own) (ws : List Value), m' = H - h ∧ h ≤ H ∧ Le M M1 ∧ n1 = pw2 (H - h) ∧ Row M1 1 A1 n1 c1 vs ∧ BRows M1 vs (lvl t name keys h) ∧ OwnRow 121 1 OA (h + 1) oc ws OE ∧ RowsAt M1 ws (lvl t name keys) ∧ D = rs.map Eng.mark ∧ L1 = (b3, .cells (List.toArray [.slice A1 n1 c1]) 121 (0, 0)) :: (OE ++ (marksB rs ++ ((b2, .cells (List.toArray [.slice NA nl nc]) 35 (0, 0)) :: (b1, .cells (List.toArray t.cells) 29 (0, 0)) :: L))) ∧ F = [(3, .pointer (some ⟨b1, 0, none⟩)), (4, .pointer (some ⟨b2, 0, none⟩)), (7, .pointer (some ⟨b3, 0, none⟩)), (10, .slice OA (h + 1) oc)]) (H) (F0 := [(3, _), (4, _), (7, _), (10, _)]) ?_ (.cons rfl (.cons rfl (.cons rfl (.cons rfl .nil)))) ?_  -- slots [3, 4, 7, 10], written [10]
    · exact ⟨0, [], A1, k, c1, vs, _, _, _, _, rfl, by omega, hd, hkl, hrow, hB, OwnRow.made (n := 1) rfl (by omega), RowsAt.snoc (ws := []) (fun i hi => by simp at hi) hrow hB, rfl, rfl, rfl⟩
    rintro m _ _ M1 L1 ⟨h, rs, A1, n1, c1, vs, OA, oc, OE, ws, rfl, hh, hd, hn1, hrow, hB, hOE, hW, rfl, rfl, rfl⟩
    refine x_seq (x_seq (x_region ?_))
    refine tl_y rfl (y_load rfl rfl (.own inferInstance inferInstance)) ?_
    refine tl_y rfl (y_len rfl) ?_
    refine tl_y rfl (y_gtr rfl rfl) ?_
    refine tl_nil (.then_normal ?_)
    refine x_cond rfl (fun hc2 => ?_) (fun hc2 => ?_)
    ·
      have hhH : h < H := by
        rcases Nat.lt_or_ge h H with hlt | hge
        · exact hlt
        · obtain rfl : h = H := by omega
          rw [Nat.sub_self, show pw2 0 = 1 from rfl] at hn1
          omega
      have hp2 := pw2_25 (h := H - h) (by omega)
      have hn12 : n1 / 2 = pw2 (H - (h + 1)) := by rw [hn1]; exact (pw2_half hhH).1
      have hlen1 : (lvl t name keys h).length = n1 := by rw [lvl_len t name keys (H := H) (by omega) h (by omega), hn1]
      refine x_skip (.then_normal ?_)
      refine x_block ?_
      refine x_seq (x_region ?_)
      refine tl_e rfl (e_alloc (fun b6 => ?_))
      refine tl_nil (.then_normal ?_)
      refine x_seq (x_seq (x_region ?_))
      refine tl_y rfl (y_load rfl rfl (.own inferInstance inferInstance)) ?_
      refine tl_e rfl (e_call' rfl pairs_spec ?_)
      rintro _ _ _ _ ⟨rfl, x0, rfl, rfl⟩
      refine tl_nil (.then_normal ?_)
      refine .sub (F' := [(3, _), (4, _), (7, _), (10, _), (11, _), (37, _)]) (.cons rfl (.cons rfl (.cons rfl (.cons rfl (.cons rfl (.cons rfl .nil)))))) ?_
      refine x_block ?_
      refine x_rangeN rfl rfl (fun l r0 fn tm lps las lbd hps has hbd htm => ?_)
      obtain ⟨xs, hxs⟩ : ∃ xs : LoopState → Option Code → Option Addr → Nat → Nat → Own → Own, ∀ st pd A k c E, xs st pd A k c E = lrec l st pd fn tm lps las lbd r0 :: (r0, .deferred (some [])) :: (b6, .cells (List.toArray [.slice A k c]) 121 (0, 0)) :: (E ++ ((b3, .cells (List.toArray [.slice A1 n1 c1]) 121 (0, 0)) :: (OE ++ (marksB rs ++ ((b2, .cells (List.toArray [.slice NA nl nc]) 35 (0, 0)) :: (b1, .cells (List.toArray t.cells) 29 (0, 0)) :: L))))) := ⟨_, fun _ _ _ _ _ _ => rfl⟩
      refine Con.postD (Con.to ((x0, .cells (List.toArray [.slice A1 n1 c1]) 121 (0, 0)) :: xs .ready none none 0 0 []) (by rw [hxs, List.nil_append]; infer_instance) (pairs1_spec hrow hB (by omega) (Inv := fun k M2 X2 => ∃ (A6 : Option Addr) (c6 : Nat) (E6 : Own) (vs6 : List Value), Le M1 M2 ∧ OwnRow 35 1 A6 k c6 vs6 E6 ∧ BRows M2 vs6 (nextB t name (lvl t name keys h) k) ∧ X2 = xs .ready none A6 k c6 E6) (Dn := fun _ _ => False) ?_ ⟨none, 0, [], [], Le.refl _, .nil, .nil, rfl⟩)) ?_
      · rintro k M2 X2 A3 n3 c3 A4 n4 c4 hk2 hb3 hb4 hM2 ⟨A6, c6, E6, vs6, hM12, hE6, hB6, rfl⟩
        rw [hxs]
        have hs3 := hb3.size
        have hs4 := hb4.size
        have hl3 := (lvl_short t name keys h).get (2 * k)
        have hl4 := (lvl_short t name keys h).get (2 * k + 1)
        obtain ⟨q, hq⟩ : ∃ q : UInt32, q.toNat = n1 / 2 + k := ⟨UInt32.ofNat (n1 / 2 + k), by rw [UInt32.toNat_ofNat', Nat.mod_eq_of_lt (by omega)]⟩
        have hd2 := hd.trans hM2
        subst hps
        subst has
        subst hbd
        refine ycon_body htm rfl (by kernel_rfl) (fun R1 => ?_)
        simp only [List.cons_append, List.append_assoc]
        refine x_seq (x_region ?_)
        refine tl_y rfl (y_assign (v := .int _ _) rfl) ?_
        refine tl_nil (.then_normal ?_)
        refine .sub (F' := [(3, _), (4, _), (7, _), (11, _), (12, _), (39, _)]) (.cons rfl (.cons rfl (.cons rfl (.cons rfl (.cons rfl (.cons rfl .nil)))))) ?_
        refine x_region ?_
        refine tl_e rfl (e_alloc (fun b7 => ?_))
        refine tl_e rfl (e_store rfl rfl (by rfl) (by rfl) inferInstance inferInstance inferInstance ?_)
        refine .bring l inferInstance ?_
        refine tl_nil (.asg (by kernel_rfl) ?_)
        refine x_block ?_
        have he : Le M2 M2 := Le.refl _
        refine x_draw 15 hmix rfl ?_
        refine to_y 0 rfl (by kernel_rfl) rfl (y_load rfl rfl (.own inferInstance inferInstance)) ?_
        refine to_y 1 rfl (by kernel_rfl) rfl (y_loadAgg rfl rfl (.own inferInstance inferInstance)) ?_
        refine to_y 2 rfl (by kernel_rfl) rfl (y_load rfl rfl (.own inferInstance inferInstance)) ?_
        refine to_p 6 rfl (by kernel_rfl) rfl (y_move (v := .int _ _) rfl) ?_
        refine to_p 9 rfl (by kernel_rfl) rfl (y_indexArrK 0 rfl rfl (by omega)) ?_
        refine to_y 10 rfl (by kernel_rfl) rfl (y_load rfl rfl (.own inferInstance inferInstance)) ?_
        refine to_p 11 rfl (by kernel_rfl) rfl (y_indexArrK 1 rfl rfl (by omega)) ?_
        refine to_y 12 rfl (by kernel_rfl) rfl (y_load rfl rfl (.own inferInstance inferInstance)) ?_
        refine to_y1 3 rfl (by kernel_rfl) rfl (y_load rfl rfl (.own inferInstance inferInstance)) ?_
        refine to_p 4 rfl (by kernel_rfl) rfl (y_len rfl) ?_
        refine to_p 5 rfl (by kernel_rfl) rfl (y_quoI rfl rfl (by omega)) ?_
        rw [show ((n1 : Nat) : Int) / 2 = ((n1 / 2 : Nat) : Int) by omega]
        refine to_p 7 rfl (by kernel_rfl) rfl (y_addI rfl rfl (by omega)) ?_
        rw [show ((n1 / 2 : Nat) : Int) + ((k : Nat) : Int) = ((q.toNat : Nat) : Int) by rw [hq]; omega]
        refine to_p 8 rfl (by kernel_rfl) rfl (y_convN32 rfl (by omega)) ?_
        refine to_e 13 rfl (by kernel_rfl) rfl (e_call' rfl (inner_spec (hg.mono hd2) t (hname.mono hd2) q (hb3.mono hM2) (by omega) (hb4.mono hM2) (by omega)) ?_)
        rintro _ M4 _ hM4 ⟨rfl, A7, m7, c7, rfl, hA7⟩
        rw [hq] at hA7
        replace he := he.trans hM4
        refine ⟨⟨he, Keeps.mem⟩, ?_⟩
        refine to_e 14 rfl (by kernel_rfl) rfl (e_buildSlice rfl (by decide) (fun b8 => ?_))
        refine ⟨⟨he, Keeps.mem⟩, ?_⟩
        refine .pub b8 inferInstance (fun M5 hM5 hb8 => ?_)
        replace he := he.trans hM5
        refine .bringE E6 inferInstance ?_
        refine to_t 15 rfl (by kernel_rfl) (by kernel_rfl) rfl (e_append (by decide) rfl rfl hE6 (.row (Row.whole (s := 1) hb8 rfl (by omega))) rfl (by omega) (by omega) (fun A9 c9 E9 hE9 => ?_))
        refine to_t 16 rfl (by kernel_rfl) (by kernel_rfl) rfl (e_store rfl rfl (by rfl) (by rfl) inferInstance inferInstance inferInstance ?_)
        refine to_nil (by kernel_rfl) (.block_normal (.on ((r0, .deferred (some [])) :: (b6, .cells (List.toArray [.slice A9 (k + 1) c9]) 121 (0, 0)) :: (E9 ++ ((b3, .cells (List.toArray [.slice A1 n1 c1]) 121 (0, 0)) :: (OE ++ (marksB rs ++ ((b2, .cells (List.toArray [.slice NA nl nc]) 35 (0, 0)) :: (b1, .cells (List.toArray t.cells) 29 (0, 0)) :: (L ++ R1))))))) inferInstance inferInstance
          (X := (r0, .deferred (some [])) :: (b6, .cells (List.toArray [.slice A9 (k + 1) c9]) 121 (0, 0)) :: (E9 ++ ((b3, .cells (List.toArray [.slice A1 n1 c1]) 121 (0, 0)) :: (OE ++ (marksB rs ++ ((b2, .cells (List.toArray [.slice NA nl nc]) 35 (0, 0)) :: (b1, .cells (List.toArray t.cells) 29 (0, 0)) :: L)))))) (by simp) he ⟨A9, c9, E9, _, hM12.trans he, hE9, by
            rw [nextB_succ, hlen1]
            exact (hB6.mono he).snoc (hA7.mono hM5), (hxs _ _ _ _ _ _).symm⟩))
      · rintro v M3 L3 hM3 ⟨X', rfl, hX⟩
        rcases hX with ⟨A6, c6, E6, vs6, hM13, hE6, hB6, rfl⟩ | hX
        · refine ⟨lrec l .ready none fn tm lps las lbd r0 :: (r0, .deferred (some [])) :: (b6, .cells (List.toArray [.slice A6 (n1 / 2) c6]) 121 (0, 0)) :: (E6 ++ ((b3, .cells (List.toArray [.slice A1 n1 c1]) 121 (0, 0)) :: (OE ++ (marksB rs ++ ((b2, .cells (List.toArray [.slice NA nl nc]) 35 (0, 0)) :: (b1, .cells (List.toArray t.cells) 29 (0, 0)) :: L))))), by rw [hxs]; infer_instance, .ready, none, _, by simp, rfl, ?_⟩
          refine .dropTo (E6 ++ ((r0, .deferred (some [])) :: (b6, .cells (List.toArray [.slice A6 (n1 / 2) c6]) 121 (0, 0)) :: (b3, .cells (List.toArray [.slice A1 n1 c1]) 121 (0, 0)) :: (OE ++ (marksB rs ++ ((b2, .cells (List.toArray [.slice NA nl nc]) 35 (0, 0)) :: (b1, .cells (List.toArray t.cells) 29 (0, 0)) :: L))))) inferInstance ?_
          refine .pubRow hE6 (fun M4 hM4 hrow6 => ?_)
          have hd4 := hd.trans (hM13.trans hM4)
          replace hB6 : BRows M4 vs6 (lvl t name keys (h + 1)) := by rw [lvl, hlen1]; exact hB6.mono hM4
          have hwl : ws.length = h + 1 := by have := hOE.len; omega
          have he : Le M4 M4 := Le.refl _
          refine .block_normal (.then_normal ?_)
          refine .sub (F' := [(3, _), (4, _), (7, _), (10, _), (11, _)]) (.cons rfl (.cons rfl (.cons rfl (.cons rfl (.cons rfl .nil))))) ?_
          refine x_draw0 3 ([(b6, .cells (List.toArray [.slice A6 (n1 / 2) c6]) 121 (0, 0))]) Keeps.mem hmix rfl ?_
          refine to_p 0 rfl (by kernel_rfl) rfl (y_move (v := .slice _ _ _) rfl) ?_
          refine to_y 1 rfl (by kernel_rfl) rfl (y_load rfl rfl (.own inferInstance inferInstance)) ?_
          refine to_two 2 4 (by kernel_rfl) ?_ ?_
          ·
            refine two_e 2 rfl rfl (e_buildSlice rfl (by decide) (fun b7 => ?_))
            refine ⟨⟨he, Keeps.mem⟩, ?_⟩
            refine .pub b7 inferInstance (fun M5 hM5 hb7 => ?_)
            replace he := he.trans hM5
            refine .to (OE ++ ((b6, .cells (List.toArray [.slice A6 (n1 / 2) c6]) 121 (0, 0)) :: (b3, .cells (List.toArray [.slice A1 n1 c1]) 121 (0, 0)) :: (r0, .deferred (some [])) :: (marksB rs ++ ((b2, .cells (List.toArray [.slice NA nl nc]) 35 (0, 0)) :: (b1, .cells (List.toArray t.cells) 29 (0, 0)) :: L)))) inferInstance ?_
            refine to_two 3 4 (by kernel_rfl) ?_ ?_
            ·
              refine two_e 3 rfl rfl (e_append (by decide) rfl rfl hOE (.row (Row.whole (s := 1) hb7 rfl (by omega))) rfl (by omega) (by omega) (fun A9 c9 E9 hE9 => ?_))
              refine ⟨⟨he, Keeps.mem⟩, ?_⟩
              refine to_p 5 rfl (by kernel_rfl) rfl (y_assign (v := .slice _ _ _) rfl) ?_
              refine to_y1 4 rfl (by kernel_rfl) rfl (y_load rfl rfl (.own inferInstance inferInstance)) ?_
              refine to_t 6 rfl (by kernel_rfl) (by kernel_rfl) rfl (e_store rfl rfl (by rfl) (by rfl) inferInstance inferInstance inferInstance ?_)
              refine .dropTo ((b3, .cells (List.toArray [.slice A6 (n1 / 2) c6]) 121 (0, 0)) :: (E9 ++ ((r0, .deferred (some [])) :: (marksB rs ++ ((b2, .cells (List.toArray [.slice NA nl nc]) 35 (0, 0)) :: (b1, .cells (List.toArray t.cells) 29 (0, 0)) :: L))))) inferInstance ?_
              refine to_nil (by kernel_rfl) (.block_normal (.loop_next (m' := H - (h + 1)) (by omega) (F' := [(3, _), (4, _), (7, _), (10, _)]) (.cons rfl (.cons rfl (.cons rfl (.cons rfl .nil)))) ?_))
              exact ⟨h + 1, r0 :: rs, A6, n1 / 2, c6, vs6, A9, c9, E9, _, rfl, by omega, hd4.trans he, hn12, hrow6.mono he, hB6.mono he, hE9, (hW.mono (hM13.trans (hM4.trans he))).snoc (hrow6.mono he) (by rw [hwl]; exact hB6.mono he), rfl, rfl, rfl⟩
            ·
              refine two_e 4 rfl rfl (tr_y (y_load rfl rfl (.own inferInstance inferInstance)) ?_)
              refine ⟨⟨he, Keeps.mem⟩, ?_⟩
              refine to_t 3 rfl (by kernel_rfl) (by kernel_rfl) rfl (e_append (by decide) rfl rfl hOE (.row (Row.whole (s := 1) hb7 rfl (by omega))) rfl (by omega) (by omega) (fun A9 c9 E9 hE9 => ?_))
              refine to_p 5 rfl (by kernel_rfl) rfl (y_assign (v := .slice _ _ _) rfl) ?_
              refine to_t 6 rfl (by kernel_rfl) (by kernel_rfl) rfl (e_store rfl rfl (by rfl) (by rfl) inferInstance inferInstance inferInstance ?_)
              refine .dropTo ((b3, .cells (List.toArray [.slice A6 (n1 / 2) c6]) 121 (0, 0)) :: (E9 ++ ((r0, .deferred (some [])) :: (marksB rs ++ ((b2, .cells (List.toArray [.slice NA nl nc]) 35 (0, 0)) :: (b1, .cells (List.toArray t.cells) 29 (0, 0)) :: L))))) inferInstance ?_
              refine to_nil (by kernel_rfl) (.block_normal (.loop_next (m' := H - (h + 1)) (by omega) (F' := [(3, _), (4, _), (7, _), (10, _)]) (.cons rfl (.cons rfl (.cons rfl (.cons rfl .nil)))) ?_))
              exact ⟨h + 1, r0 :: rs, A6, n1 / 2, c6, vs6, A9, c9, E9, _, rfl, by omega, hd4.trans he, hn12, hrow6.mono he, hB6.mono he, hE9, (hW.mono (hM13.trans (hM4.trans he))).snoc (hrow6.mono he) (by rw [hwl]; exact hB6.mono he), rfl, rfl, rfl⟩
          ·
            refine two_e 4 rfl rfl (tr_y (y_load rfl rfl (.own inferInstance inferInstance)) ?_)
            refine ⟨⟨he, Keeps.mem⟩, ?_⟩
            refine to_e 2 rfl (by kernel_rfl) rfl (e_buildSlice rfl (by decide) (fun b7 => ?_))
            refine ⟨⟨he, Keeps.mem⟩, ?_⟩
            refine .pub b7 inferInstance (fun M5 hM5 hb7 => ?_)
            replace he := he.trans hM5
            refine .to (OE ++ ((b6, .cells (List.toArray [.slice A6 (n1 / 2) c6]) 121 (0, 0)) :: (b3, .cells (List.toArray [.slice A1 n1 c1]) 121 (0, 0)) :: (r0, .deferred (some [])) :: (marksB rs ++ ((b2, .cells (List.toArray [.slice NA nl nc]) 35 (0, 0)) :: (b1, .cells (List.toArray t.cells) 29 (0, 0)) :: L)))) inferInstance ?_
            refine to_t 3 rfl (by kernel_rfl) (by kernel_rfl) rfl (e_append (by decide) rfl rfl hOE (.row (Row.whole (s := 1) hb7 rfl (by omega))) rfl (by omega) (by omega) (fun A9 c9 E9 hE9 => ?_))
            refine to_p 5 rfl (by kernel_rfl) rfl (y_assign (v := .slice _ _ _) rfl) ?_
            refine to_t 6 rfl (by kernel_rfl) (by kernel_rfl) rfl (e_store rfl rfl (by rfl) (by rfl) inferInstance inferInstance inferInstance ?_)
            refine .dropTo ((b3, .cells (List.toArray [.slice A6 (n1 / 2) c6]) 121 (0, 0)) :: (E9 ++ ((r0, .deferred (some [])) :: (marksB rs ++ ((b2, .cells (List.toArray [.slice NA nl nc]) 35 (0, 0)) :: (b1, .cells (List.toArray t.cells) 29 (0, 0)) :: L))))) inferInstance ?_
            refine to_nil (by kernel_rfl) (.block_normal (.loop_next (m' := H - (h + 1)) (by omega) (F' := [(3, _), (4, _), (7, _), (10, _)]) (.cons rfl (.cons rfl (.cons rfl (.cons rfl .nil)))) ?_))
            exact ⟨h + 1, r0 :: rs, A6, n1 / 2, c6, vs6, A9, c9, E9, _, rfl, by omega, hd4.trans he, hn12, hrow6.mono he, hB6.mono he, hE9, (hW.mono (hM13.trans (hM4.trans he))).snoc (hrow6.mono he) (by rw [hwl]; exact hB6.mono he), rfl, rfl, rfl⟩
        · exact hX.elim
    ·
      obtain rfl : h = H := by
        rcases Nat.lt_or_ge h H with hlt | hge
        · have h1 := (pw2_half hlt).2
          have h2 := pw2_pos (H - (h + 1))
          omega
        · omega
      refine .to (OE ++ ((b3, .cells (List.toArray [.slice A1 n1 c1]) 121 (0, 0)) :: (marksB rs ++ ((b2, .cells (List.toArray [.slice NA nl nc]) 35 (0, 0)) :: (b1, .cells (List.toArray t.cells) 29 (0, 0)) :: L)))) inferInstance ?_
      refine .pubRow hOE (fun M3 hM3 hOr => ?_)
      refine x_exit (.then_exit (.loop_exit (.block_exit (.then_normal ?_))))
      refine .sub (F' := [(10, _)]) (.cons rfl .nil) ?_
      refine x_seq (x_region ?_)
      refine tl_y rfl (y_move (v := .slice _ _ _) rfl) ?_
      refine tl_y rfl (y_assign (v := .slice _ _ _) rfl) ?_
      refine tl_nil (.then_normal ?_)
      refine x_ret (.retMs (rs := rs) (L' := (b3, .cells (List.toArray [.slice A1 n1 c1]) 121 (0, 0)) :: (b2, .cells (List.toArray [.slice NA nl nc]) 35 (0, 0)) :: (b1, .cells (List.toArray t.cells) 29 (0, 0)) :: L) (L1 := L) inferInstance (rv1 rfl (rc_tmp (by rfl))) inferInstance (hd.trans hM3) ⟨rfl, OA, oc, ws, rfl, hOr, hW.mono hM3⟩)
end
end Go.Proofs.YtiimjodbaogjbaaGreatDoor
set_option linter.unusedVariables false
set_option linter.unusedSimpArgs false
set_option linter.constructorNameAsVariable false
namespace Go.Proofs.YtiimjodbaogjbaaGreatDoor
open Go Go.Eng
def rootB (t : TreeV) (name : List UInt8) (keys : List (List UInt8)) : List UInt8 := (lvl t name keys t.h.toNat).getD 0 []
section
variable {G : World} {M : Mem} {L : Own}
theorem Root_spec (hg : MrG M) (t : TreeV) {NA : Option Addr} {nl nc : Nat} {name : List UInt8} (hname : Bytes M NA nl nc name) {KA : Option Addr} {kl kc : Nat} {kvs : List Value} {keys : List (List UInt8)} (hk : Row M 1 KA kl kc kvs) (hkb : BRows M kvs keys) (hks : ∀ b ∈ keys, b.length ≤ 1000000000000) :
    Con Tryz.prog 86 #[.agg (List.toArray t.cells), .slice NA nl nc, .slice KA kl kc] G M L (fun v M' L' => L = L' ∧ ∃ A' m' c', v = .slice A' m' c' ∧ Bytes M' A' m' c' (if okM t nl kl then rootB t name keys else [])) noPanic := by
  have hmx := hk.max
  have hle := hk.le
  have hvl := hkb.len
  have hkn : kvs.length = kl := by have := hk.len; omega
  refine enter (args := [_, _, _]) (fn := Tryz.f86) ⟨Tryz.func86, rfl, by kernel_rfl, by kernel_rfl⟩ 22 rfl ?_
  refine x_seq (x_region ?_)
  refine tl_e rfl (e_box rfl (fun b1 => ?_))
  refine tl_y rfl (y_assign rfl) ?_
  refine tl_nil (.then_normal ?_)
  refine x_seq (x_seq (x_region ?_))
  refine tl_y rfl (y_loadAgg rfl rfl (.own inferInstance inferInstance)) ?_
  refine tl_y rfl (y_move (v := .slice _ _ _) rfl) ?_
  refine tl_y rfl (y_move (v := .slice _ _ _) rfl) ?_
  refine tl_e rfl (e_call' rfl (May_spec hg t (by omega)) ?_)
  rintro _ M1 _ hM1 ⟨rfl, rfl⟩
  refine tl_y rfl (y_notd rfl) ?_
  refine tl_nil (.then_normal ?_)
  refine .sub (F' := [(1, _), (2, _), (3, _), (11, _)]) (.cons rfl (.cons rfl (.cons rfl (.cons rfl .nil)))) ?_
  refine x_cond rfl (fun hc1 => ?_) (fun hc1 => ?_)
  ·
    refine x_seq (x_region ?_)
    refine tl_y rfl (y_assign rfl) ?_
    refine tl_nil (.then_normal ?_)
    refine .sub (F' := [(6, _)]) (.cons rfl .nil) ?_
    refine x_ret (.then_ret (.dropTo L inferInstance (ret1 rfl rfl hM1 ⟨rfl, _, _, _, rfl, by rw [if_neg hc1]; exact Row.nil _ _⟩)))
  ·
    have hok : okM t nl kl := Classical.not_not.1 hc1
    obtain ⟨hokc, H, hH, hH1, hH25, hlv⟩ := okS_facts hok.1
    have hkl : kl = pw2 H := by rw [← hlv]; exact hok.2.2
    have hH10 := hok.2.1
    have hpw := pw2_25 hH25
    refine x_skip (.then_normal ?_)
    refine x_seq ?_
    have hd : Le M1 M1 := Le.refl _
    refine x_draw 11 hmix rfl ?_
    refine to_y 0 rfl (by kernel_rfl) rfl (y_loadAgg rfl rfl (.own inferInstance inferInstance)) ?_
    refine to_p 1 rfl (by kernel_rfl) rfl (y_move (v := .slice _ _ _) rfl) ?_
    refine to_p 2 rfl (by kernel_rfl) rfl (y_move (v := .slice _ _ _) rfl) ?_
    refine to_p 4 rfl (by kernel_rfl) rfl (y_fieldAddr rfl) ?_
    refine to_y 5 rfl (by kernel_rfl) rfl (y_load rfl rfl (.own inferInstance inferInstance)) ?_
    refine to_e 3 rfl (by kernel_rfl) rfl (e_call' rfl (rows_spec (hg.mono hM1) t hH (by omega) (hname.mono hM1) (hk.mono hM1) (hkb.mono hM1) hkl hks) ?_)
    rintro _ M2 _ hM2 ⟨rfl, A2, c2, ws, rfl, hrow, hW⟩
    refine ⟨⟨hM2, Keeps.mem⟩, ?_⟩
    have hwl : ws.length = H + 1 := by have := hrow.len; omega
    obtain ⟨g, o, rfl, hcell⟩ := hrow.addr (by omega)
    obtain ⟨A3, n3, c3, vs3, hv3, hr3, hb3⟩ := hW H (by omega)
    have hl3 := lvl_len t name keys (H := H) (by omega) H (Nat.le_refl _)
    rw [Nat.sub_self, show pw2 0 = 1 from rfl] at hl3
    have hn3 : n3 = 1 := by have := hr3.len; have := hb3.len; omega
    subst hn3
    obtain ⟨g3, o3, rfl, hcell3⟩ := hr3.addr (by omega)
    obtain ⟨A4, n4, c4, hv4, hb4⟩ := hb3.get 0 (by omega)
    rw [hH]
    refine to_p 6 rfl (by kernel_rfl) rfl (y_indexAddr rfl rfl (by omega)) ?_
    refine to_y1 7 rfl (by kernel_rfl) rfl (y_load rfl rfl (.at_ (hcell _ H _ hv3) (by omega))) ?_
    refine to_p 8 rfl (by kernel_rfl) rfl (y_indexAddr rfl rfl (by omega)) ?_
    refine to_y1 9 rfl (by kernel_rfl) rfl (y_load rfl rfl (.at_ (hcell3 _ 0 _ hv4) (by omega))) ?_
    refine to_p 10 rfl (by kernel_rfl) rfl (y_assign (v := .slice _ _ _) rfl) ?_
    refine to_nil (by kernel_rfl) (.then_normal ?_)
    refine .sub (F' := [(6, _)]) (.cons rfl .nil) ?_
    refine x_ret (.dropTo L inferInstance (ret1 rfl rfl (hM1.trans hM2) ⟨rfl, _, _, _, rfl, by rw [if_pos hok, rootB]; simpa only [hH, Int.toNat_natCast] using hb4⟩))
end
end Go.Proofs.YtiimjodbaogjbaaGreatDoor
set_option linter.unusedVariables false
set_option linter.unusedSimpArgs false
set_option linter.constructorNameAsVariable false
namespace Go.Proofs.YtiimjodbaogjbaaGreatDoor
open Go Go.Eng
def clX (t : TreeV) (name : List UInt8) (way : List (List UInt8)) (p : Nat) (x : List UInt8) : Nat → List UInt8
  | 0 => x
  | k + 1 => innB t name (p / pw2 (k + 1)) (if p / pw2 k % 2 = 1 then way.getD k [] ++ clX t name way p x k else clX t name way p x k ++ way.getD k [])
def okW (t : TreeV) (nl q : Nat) (way : List (List UInt8)) : Prop := okS t nl ∧ q < leavesN t.h ∧ (way.length : Int) = t.h ∧ ∀ b ∈ way, (b.length : Int) = t.n
instance {t : TreeV} {nl q : Nat} {way : List (List UInt8)} : Decidable (okW t nl q way) := inferInstanceAs (Decidable (_ ∧ _))
def climbB (t : TreeV) (name : List UInt8) (q : Nat) (key : List UInt8) (way : List (List UInt8)) : List UInt8 :=
  if okW t name.length q way then clX t name way (pw2 t.h.toNat + q) (leafB t name q key) way.length else []
def climbE (t : TreeV) (nl q : Nat) (way : List (List UInt8)) : Int := if okW t nl q way then 0 else 1
section
variable {G : World} {M : Mem} {L : Own}
end
end Go.Proofs.YtiimjodbaogjbaaGreatDoor
set_option linter.unusedVariables false
set_option linter.unusedSimpArgs false
set_option linter.constructorNameAsVariable false
namespace Go.Proofs.YtiimjodbaogjbaaGreatDoor
open Go Go.Eng
section
variable {G : World} {M : Mem} {L : Own}
theorem RTree_spec (code : UInt32) :
    Con Tryz.prog 55 #[.int .u32 (code.toNat : Int)] G M L (fun v M' L' => M = M' ∧ L = L' ∧ v = .tuple #[.agg (List.toArray (treeV code).cells), .int .i64 (treeE code)]) noPanic := by
  have hc := code.toNat_lt
  refine enter (args := [_]) (fn := Tryz.f55) ⟨Tryz.func55, rfl, by kernel_rfl, by kernel_rfl⟩ 56 rfl ?_
  refine x_seq (x_region ?_)
  refine tl_e rfl (e_alloc (fun b1 => ?_))
  refine tl_y rfl (y_assign rfl) ?_
  refine tl_nil (.then_normal ?_)
  refine x_seq ?_
  refine x_join (I := fun F D M2 L2 => ∃ b : Bool, (b = true ↔ (5 ≤ code.toNat ∧ code.toNat ≤ 24)) ∧ D = [] ∧ M = M2 ∧ (b1, .cells (List.toArray tree0.cells) 29 (0, 0)) :: L = L2 ∧ F = [(0, .int .u32 (code.toNat : Int)), (2, .pointer (some ⟨b1, 0, none⟩)), (13, .bool b)]) ?_ (fun Jq1 => ?_)
  ·
    rintro _ _ _ _ ⟨t1, ht1, rfl, rfl, rfl, rfl⟩  -- slots [0, 2, 13]
    refine x_condb rfl (fun hc1 => ?_) (fun hc1 => ?_)
    ·
      have h5 := ht1.1 hc1
      obtain ⟨i, hi⟩ : ∃ i, i = code.toNat - 5 := ⟨_, rfl⟩
      have hto : treeOf code = some (treeT code i 5) := by rw [treeOf, if_pos h5, hi]
      refine x_seq (x_region ?_)
      refine tl_y rfl (y_move (v := .int _ _) rfl) ?_
      refine tl_y rfl (y_subN32 rfl rfl (by omega)) ?_
      refine tl_y rfl (y_convI rfl (by omega)) ?_
      rw [show (code.toNat : Int) - 5 = (i : Int) by omega]
      refine tl_y rfl (y_quoI rfl rfl (by omega)) ?_
      rw [show (i : Int) / 5 = ((i / 5 : Nat) : Int) by omega]
      refine tl_e rfl (e_call' rfl (Rsize_spec (i / 5) (by omega)) ?_)
      rintro _ _ _ _ ⟨rfl, rfl, rfl⟩
      refine tl_y rfl (y_move (v := .tuple _) rfl) ?_
      refine tl_y rfl (y_extract rfl) ?_
      refine tl_y rfl (y_extract rfl) ?_
      refine tl_y rfl (y_assign (v := .int _ _) rfl) ?_
      refine tl_y rfl (y_assign (v := .int _ _) rfl) ?_
      refine tl_nil (.then_normal ?_)
      refine .sub (F' := [(0, _), (2, _), (4, _), (5, _)]) (.cons rfl (.cons rfl (.cons rfl (.cons rfl .nil)))) ?_
      refine x_seq (x_region ?_)
      refine tl_y rfl (y_move (v := .int _ _) rfl) ?_
      refine tl_y rfl (y_move (v := .int _ _) rfl) ?_
      refine tl_y rfl (y_move (v := .int _ _) rfl) ?_
      refine tl_y rfl (y_move (v := .int _ _) rfl) ?_
      refine tl_y rfl (y_subN32 rfl rfl (by omega)) ?_
      refine tl_y rfl (y_convI rfl (by omega)) ?_
      refine tl_y rfl (y_remI rfl rfl (by omega)) ?_
      refine tl_y rfl (y_addI rfl rfl (by omega)) ?_
      refine tl_y rfl (y_mulI rfl rfl (by omega)) ?_
      rw [show 5 * ((1 : Int) + ((code.toNat : Int) - 5) % 5) = ((5 * (1 + i % 5) : Nat) : Int) by omega]
      refine tl_y rfl (y_build rfl) ?_
      refine tl_e rfl (e_store rfl rfl (by rfl) (by rfl) inferInstance inferInstance inferInstance ?_)
      refine tl_y rfl (y_assign rfl) ?_
      refine tl_nil (.then_normal ?_)
      refine .sub (F' := [(2, _), (3, _)]) (.cons rfl (.cons rfl .nil)) ?_
      refine x_ret (.then_ret (retRV (L' := L) (rv2 rfl (rc_cellAgg (by rfl) rfl (.own inferInstance inferInstance)) (rc_tmp (by rfl))) inferInstance (Le.refl _) ⟨rfl, rfl, by rw [treeV, treeE, hto]; rfl⟩))
    ·
      have hn5 : ¬ (5 ≤ code.toNat ∧ code.toNat ≤ 24) := fun h => by rw [ht1.2 h] at hc1; cases hc1
      refine x_skip (.then_normal ?_)
      refine x_seq ?_
      refine x_join (I := fun F D M2 L2 => ∃ b : Bool, (b = true ↔ (4026531841 ≤ code.toNat ∧ code.toNat ≤ 4026531856)) ∧ D = [] ∧ M = M2 ∧ (b1, .cells (List.toArray tree0.cells) 29 (0, 0)) :: L = L2 ∧ F = [(0, .int .u32 (code.toNat : Int)), (2, .pointer (some ⟨b1, 0, none⟩)), (37, .bool b)]) ?_ (fun Jq4 => ?_)
      ·
        rintro _ _ _ _ ⟨t2, ht2, rfl, rfl, rfl, rfl⟩  -- slots [0, 2, 37]
        refine x_condb rfl (fun hc2 => ?_) (fun hc2 => ?_)
        ·
          have h5 := ht2.1 hc2
          obtain ⟨i, hi⟩ : ∃ i, i = code.toNat - 4026531841 := ⟨_, rfl⟩
          have hto : treeOf code = some (treeT code i 4) := by rw [treeOf, if_neg (by omega), if_pos h5, hi]
          refine x_seq (x_region ?_)
          refine tl_y rfl (y_move (v := .int _ _) rfl) ?_
          refine tl_y rfl (y_subN32 rfl rfl (by omega)) ?_
          refine tl_y rfl (y_convI rfl (by omega)) ?_
          rw [show (code.toNat : Int) - 4026531841 = (i : Int) by omega]
          refine tl_y rfl (y_quoI rfl rfl (by omega)) ?_
          rw [show (i : Int) / 4 = ((i / 4 : Nat) : Int) by omega]
          refine tl_e rfl (e_call' rfl (Rsize_spec (i / 4) (by omega)) ?_)
          rintro _ _ _ _ ⟨rfl, rfl, rfl⟩
          refine tl_y rfl (y_move (v := .tuple _) rfl) ?_
          refine tl_y rfl (y_extract rfl) ?_
          refine tl_y rfl (y_extract rfl) ?_
          refine tl_y rfl (y_assign (v := .int _ _) rfl) ?_
          refine tl_y rfl (y_assign (v := .int _ _) rfl) ?_
          refine tl_nil (.then_normal ?_)
          refine .sub (F' := [(0, _), (2, _), (6, _), (7, _)]) (.cons rfl (.cons rfl (.cons rfl (.cons rfl .nil)))) ?_
          refine x_seq (x_region ?_)
          refine tl_y rfl (y_move (v := .int _ _) rfl) ?_
          refine tl_y rfl (y_move (v := .int _ _) rfl) ?_
          refine tl_y rfl (y_move (v := .int _ _) rfl) ?_
          refine tl_y rfl (y_move (v := .int _ _) rfl) ?_
          refine tl_y rfl (y_subN32 rfl rfl (by omega)) ?_
          refine tl_y rfl (y_convI rfl (by omega)) ?_
          refine tl_y rfl (y_remI rfl rfl (by omega)) ?_
          refine tl_y rfl (y_addI rfl rfl (by omega)) ?_
          rw [show (1 : Int) + ((code.toNat : Int) - 4026531841) % 4 = ((1 + i % 4 : Nat) : Int) by omega]
          refine tl_y rfl (y_build rfl) ?_
          refine tl_e rfl (e_store rfl rfl (by rfl) (by rfl) inferInstance inferInstance inferInstance ?_)
          refine tl_y rfl (y_assign rfl) ?_
          refine tl_nil (.then_normal ?_)
          refine .sub (F' := [(2, _), (3, _)]) (.cons rfl (.cons rfl .nil)) ?_
          refine x_ret (.then_ret (retRV (L' := L) (rv2 rfl (rc_cellAgg (by rfl) rfl (.own inferInstance inferInstance)) (rc_tmp (by rfl))) inferInstance (Le.refl _) ⟨rfl, rfl, by rw [treeV, treeE, hto]; rfl⟩))
        ·
          have hn6 : ¬ (4026531841 ≤ code.toNat ∧ code.toNat ≤ 4026531856) := fun h => by rw [ht2.2 h] at hc2; cases hc2
          have hto : treeOf code = none := by rw [treeOf, if_neg hn5, if_neg hn6]
          refine x_skip (.then_normal ?_)
          refine x_seq (x_region ?_)
          refine tl_y rfl (y_build rfl) ?_
          refine tl_e rfl (e_store rfl rfl (by rfl) (by rfl) inferInstance inferInstance inferInstance ?_)
          refine tl_y rfl (y_assign rfl) ?_
          refine tl_nil (.then_normal ?_)
          refine x_ret (retRV (L' := L) (rv2 rfl (rc_cellAgg (by rfl) rfl (.own inferInstance inferInstance)) (rc_tmp (by rfl))) inferInstance (Le.refl _) ⟨rfl, rfl, by rw [treeV, treeE, hto]; rfl⟩)
      ·
        refine x_region ?_
        refine tl_y rfl (y_move (v := .int _ _) rfl) ?_
        refine tl_y rfl (y_geq rfl rfl) ?_
        refine tl_y rfl (y_move (v := .bool _) rfl) ?_
        refine tl_cases (s := 34) rfl (fun hk1 => ?_) (fun hk1 => ?_)
        ·
          refine tl_y rfl (y_move (v := .int _ _) rfl) ?_
          refine tl_y rfl (y_leq rfl rfl) ?_
          refine tl_y rfl (y_pickT rfl rfl) ?_
          refine tl_nil (.then_normal (.sub (F' := [(0, _), (2, _), (37, _)]) (.cons rfl (.cons rfl (.cons rfl .nil))) (Jq4 _ _ _ _ ?_)))
          exact ⟨_, by first | (simp; done) | (simp; omega) | omega, rfl, rfl, rfl, rfl⟩
        ·
          refine tl_skip rfl ?_
          refine tl_skip rfl ?_
          refine tl_y rfl (y_pickF rfl rfl) ?_
          refine tl_nil (.then_normal (.sub (F' := [(0, _), (2, _), (37, _)]) (.cons rfl (.cons rfl (.cons rfl .nil))) (Jq4 _ _ _ _ ?_)))
          exact ⟨_, by first | (simp; done) | (simp; omega) | omega, rfl, rfl, rfl, rfl⟩
  ·
    refine x_region ?_
    refine tl_y rfl (y_move (v := .int _ _) rfl) ?_
    refine tl_y rfl (y_geq rfl rfl) ?_
    refine tl_y rfl (y_move (v := .bool _) rfl) ?_
    refine tl_cases (s := 10) rfl (fun hk2 => ?_) (fun hk2 => ?_)
    ·
      refine tl_y rfl (y_move (v := .int _ _) rfl) ?_
      refine tl_y rfl (y_leq rfl rfl) ?_
      refine tl_y rfl (y_pickT rfl rfl) ?_
      refine tl_nil (.then_normal (.sub (F' := [(0, _), (2, _), (13, _)]) (.cons rfl (.cons rfl (.cons rfl .nil))) (Jq1 _ _ _ _ ?_)))
      exact ⟨_, by first | (simp; done) | (simp; omega) | omega, rfl, rfl, rfl, rfl⟩
    ·
      refine tl_skip rfl ?_
      refine tl_skip rfl ?_
      refine tl_y rfl (y_pickF rfl rfl) ?_
      refine tl_nil (.then_normal (.sub (F' := [(0, _), (2, _), (13, _)]) (.cons rfl (.cons rfl (.cons rfl .nil))) (Jq1 _ _ _ _ ?_)))
      exact ⟨_, by first | (simp; done) | (simp; omega) | omega, rfl, rfl, rfl, rfl⟩
end
end Go.Proofs.YtiimjodbaogjbaaGreatDoor
set_option linter.unusedVariables false
set_option linter.unusedSimpArgs false
set_option linter.constructorNameAsVariable false
namespace Go.Proofs.YtiimjodbaogjbaaGreatDoor
open Go Go.Eng
abbrev pcells (o : OtsV) (t : TreeV) : List Value := [.int .u32 (o.code.toNat : Int), .int .i64 o.kind, .int .i64 o.n, .int .i64 o.w, .int .i64 o.p, .int .i64 o.shift, .int .u32 (t.code.toNat : Int), .int .i64 t.kind, .int .i64 t.n, .int .i64 t.h]
section
variable {G : World} {M : Mem} {L : Own}
def lwrongv (e : Int) : Value := .iface 160 (.agg #[.int .i64 e])
def lwrong (e : Int) : List PanicEntry := [{ v := lwrongv e, recovered := false }]
theorem lmust_spec (t : Bool) (e : Int) :
    Con Tryz.prog 63 #[.bool t, .int .i64 e] G M L (fun v M' L' => M = M' ∧ L = L' ∧ t = true) (fun ch M' L' => M = M' ∧ L = L' ∧ t = false ∧ ch = lwrong e) := by
  refine enter (args := [_, _]) (fn := Tryz.f63) ⟨Tryz.func63, rfl, by kernel_rfl, by kernel_rfl⟩ 9 rfl ?_
  refine x_seq (x_region ?_)
  refine tl_y rfl (y_move (v := .bool _) rfl) ?_
  refine tl_y rfl (y_not rfl) ?_
  refine tl_nil (.then_normal ?_)
  refine x_condb rfl (fun hc1 => ?_) (fun hc1 => ?_)
  ·
    refine x_region ?_
    refine tl_y rfl (y_move (v := .int _ _) rfl) ?_
    refine tl_y rfl (y_build rfl) ?_
    refine tl_y rfl (y_makeIface rfl (by intro _ h; cases h)) ?_
    refine tl_e rfl (e_panic rfl (.ret (Le.refl _) ⟨rfl, rfl, by simpa using hc1, rfl⟩))
  ·
    refine x_skip (end0 rfl (Le.refl _) ⟨rfl, rfl, by simpa using hc1⟩)
theorem caughtP1_ret {b c : Nat} {x : Int} {cs : List Value} : ConD Tryz.prog 124 #[.pointer (some ⟨b, 0, none⟩), .pointer (some ⟨c, 0, none⟩)] .returning G M ((c, .cells (List.toArray [.int .i64 x]) 38 (0, 0)) :: (b, .cells cs.toArray 86 (0, 0)) :: L) (fun u' M' L' => u' = .returning ∧ M' = M ∧ L' = (c, .cells (List.toArray [.int .i64 x]) 38 (0, 0)) :: (b, .cells cs.toArray 86 (0, 0)) :: L) := by
  refine enterRec (args := [_, _]) (fn := Tryz.f124) ⟨Tryz.func124, rfl, by kernel_rfl, by kernel_rfl⟩ 15 rfl rfl ?_
  refine x_block ?_
  refine x_seq (x_region ?_)
  refine tl_y rfl (y_eqNilIface rfl rfl) ?_
  refine tl_nil (.then_normal ?_)
  refine x_true rfl (rfl) ?_
  refine x_region ?_
  refine tl_y rfl (y_assign rfl) ?_
  refine tl_nil (.block_normal (.rec_normal (Le.refl _) ⟨rfl, rfl, rfl⟩))
theorem caughtP1_wrong {b c : Nat} {x e : Int} : ConD Tryz.prog 124 #[.pointer (some ⟨b, 0, none⟩), .pointer (some ⟨c, 0, none⟩)] (.panicking (lwrong e)) G M ((c, .cells (List.toArray [.int .i64 x]) 38 (0, 0)) :: (b, .cells (List.toArray [.int .u32 0, .int .i64 0, .int .i64 0, .int .i64 0, .int .i64 0, .int .i64 0, .int .u32 0, .int .i64 0, .int .i64 0, .int .i64 0]) 86 (0, 0)) :: L)
    (fun u' M' L' => u' = .panicking [{ v := lwrongv e, recovered := true }] ∧ M' = M ∧ L' = (c, .cells (List.toArray [.int .i64 e]) 38 (0, 0)) :: (b, .cells (List.toArray [.int .u32 0, .int .i64 0, .int .i64 0, .int .i64 0, .int .i64 0, .int .i64 0, .int .u32 0, .int .i64 0, .int .i64 0, .int .i64 0]) 86 (0, 0)) :: L) := by
  refine enterRec (args := [_, _]) (fn := Tryz.f124) ⟨Tryz.func124, rfl, by kernel_rfl, by kernel_rfl⟩ 15 rfl rfl ?_
  refine x_block ?_
  refine x_seq (x_region ?_)
  refine tl_y rfl (y_eqIfaceNil rfl rfl) ?_
  refine tl_nil (.then_normal ?_)
  refine x_false rfl (rfl) ?_
  refine x_seq (x_region ?_)
  refine tl_y rfl (y_assertOk rfl (by intro _ h; cases h)) ?_
  refine tl_y rfl (y_extract rfl) ?_
  refine tl_y rfl (y_extract rfl) ?_
  refine tl_nil (.then_normal ?_)
  refine x_true rfl (rfl) ?_
  refine x_seq (x_region ?_)
  refine tl_e rfl (e_alloc (fun b7 => ?_))
  refine tl_e rfl (e_store rfl rfl (by rfl) (by rfl) inferInstance inferInstance inferInstance ?_)
  refine tl_nil (.then_normal ?_)
  refine .sub (F' := [(0, _), (1, _), (3, _)]) (.cons rfl (.cons rfl (.cons rfl .nil))) ?_
  refine x_seq (x_region ?_)
  refine tl_e rfl (e_alloc (fun b8 => ?_))
  refine tl_nil (.then_normal ?_)
  refine x_draw0 4 ((b7, .cells (List.toArray [.int .i64 e]) 160 (0, 0)) :: (b8, .cells (List.toArray [.int .u32 0, .int .i64 0, .int .i64 0, .int .i64 0, .int .i64 0, .int .i64 0, .int .u32 0, .int .i64 0, .int .i64 0, .int .i64 0]) 86 (0, 0)) :: []) Keeps.mem hmix rfl ?_
  refine to_y 0 rfl (by kernel_rfl) rfl (y_loadAgg rfl rfl (.own inferInstance inferInstance)) ?_
  refine to_p 1 rfl (by kernel_rfl) rfl (y_fieldAddr rfl) ?_
  refine to_y 2 rfl (by kernel_rfl) rfl (y_load rfl rfl (.own inferInstance inferInstance)) ?_
  refine to_e 3 rfl (by kernel_rfl) rfl (e_store rfl rfl (by rfl) (by rfl) inferInstance inferInstance inferInstance ?_)
  refine ⟨⟨(by first | exact Le.refl _ | assumption), Keeps.mem⟩, ?_⟩
  refine to_t 4 rfl (by kernel_rfl) (by kernel_rfl) rfl (e_store rfl rfl (by rfl) (by rfl) inferInstance inferInstance inferInstance ?_)
  refine to_nil (by kernel_rfl) (.block_normal (.dropTo ((c, .cells (List.toArray [.int .i64 e]) 38 (0, 0)) :: (b, .cells (List.toArray [.int .u32 0, .int .i64 0, .int .i64 0, .int .i64 0, .int .i64 0, .int .i64 0, .int .u32 0, .int .i64 0, .int .i64 0, .int .i64 0]) 86 (0, 0)) :: L) inferInstance (.rec_normal (Le.refl _) ⟨rfl, rfl, rfl⟩)))
theorem caughtP_spec {wf : FuncId} {first cap : List Value} {K : OtsV → TreeV → Mem → Prop} {Kp : Int → Prop}
    (hw : ∀ p q, Con Tryz.prog wf (first ++ [] ++ cap).toArray G M (p :: q :: L) (fun v M' L' => L' = p :: q :: L ∧ ∃ (o : OtsV) (t : TreeV), v = .agg (List.toArray (pcells o t)) ∧ K o t M') (fun ch M' L' => L' = p :: q :: L ∧ ∃ e, Kp e ∧ ch = lwrong e)) :
    Con Tryz.prog 56 #[.func (.func wf) first.toArray cap.toArray] G M L (fun v M' L' => L' = L ∧ ((∃ (o : OtsV) (t : TreeV), v = .tuple #[.agg (List.toArray (pcells o t)), .int .i64 0] ∧ K o t M') ∨ (∃ e, v = .tuple #[.agg (List.toArray [.int .u32 0, .int .i64 0, .int .i64 0, .int .i64 0, .int .i64 0, .int .i64 0, .int .u32 0, .int .i64 0, .int .i64 0, .int .i64 0]), .int .i64 e] ∧ Kp e))) noPanic := by
  refine enterD (args := [_]) (fn := Tryz.f56) ⟨Tryz.func56, rfl, by kernel_rfl, by kernel_rfl⟩ 7 rfl ?_
  refine x_seq (x_region ?_)
  refine tl_e rfl (e_alloc (fun b1 => ?_))
  refine tl_e rfl (e_alloc (fun b2 => ?_))
  refine tl_nil (.then_normal ?_)
  refine x_seq (x_region ?_)
  refine tl_y rfl (y_makeFunc rfl rfl) ?_
  refine tl_e rfl (e_defer rfl rfl rfl ?_)
  refine tl_nil (.then_normal ?_)
  refine x_seq (x_region ?_)
  refine tl_y rfl (y_move (v := .func _ _ _) rfl) ?_
  refine tl_e rfl (e_callv rfl rfl (hw _ _) (by
    rintro _ M1 _ hM1 ⟨rfl, e, hr, rfl⟩
    refine .retD (cap := [_, _]) (args := []) caughtP1_wrong ?_
    rintro _ M2 _ hM2 ⟨rfl, rfl, rfl⟩
    exact .inl ⟨rfl, _, L, rv2 rfl (rc_cellAgg (by rfl) rfl (.own inferInstance inferInstance)) (rc_cell (by rfl) rfl (.own inferInstance inferInstance)), inferInstance, hM1, rfl, .inr ⟨e, rfl, hr⟩⟩) ?_)
  rintro _ M1 _ hM1 ⟨rfl, o, t, rfl, hk⟩
  refine tl_e rfl (e_store rfl rfl (by rfl) (by rfl) inferInstance inferInstance inferInstance ?_)
  refine tl_e rfl (e_store rfl rfl (by rfl) (by rfl) inferInstance inferInstance inferInstance ?_)
  refine tl_nil (.then_normal ?_)
  refine .sub (F' := [(2, _), (3, _)]) (.cons rfl (.cons rfl .nil)) ?_
  refine x_ret (.retD (cap := [_, _]) (args := []) (caughtP1_ret (cs := pcells o t)) ?_)
  rintro _ M2 _ hM2 ⟨rfl, rfl, rfl⟩
  exact .inl ⟨rfl, _, L, rv2 rfl (rc_cellAgg (by rfl) rfl (.own inferInstance inferInstance)) (rc_cell (by rfl) rfl (.own inferInstance inferInstance)), inferInstance, hM1, rfl, .inl ⟨o, t, rfl, hk⟩⟩
end
end Go.Proofs.YtiimjodbaogjbaaGreatDoor
set_option linter.unusedVariables false
set_option linter.unusedSimpArgs false
set_option linter.constructorNameAsVariable false
namespace Go.Proofs.YtiimjodbaogjbaaGreatDoor
open Go Go.Eng
structure PairV where
  o : UInt32
  t : UInt32
deriving DecidableEq
abbrev PairV.cells (p : PairV) : List Value := [.int .u32 (p.o.toNat : Int), .int .u32 (p.t.toNat : Int)]
def okP (p : PairV) : Prop := otsE p.o = 0 ∧ treeE p.t = 0 ∧ (otsV p.o).kind = (treeV p.t).kind ∧ (otsV p.o).n = (treeV p.t).n
instance {p : PairV} : Decidable (okP p) := inferInstanceAs (Decidable (_ ∧ _))
structure HsG (M : Mem) : Prop where
  o : SetG M
  t : SetT M
theorem HsG.mono {M M' : Mem} (h : HsG M) (hle : Le M M') : HsG M' := ⟨h.o.mono hle, h.t.mono hle⟩
section
variable {G : World} {M : Mem} {L : Own}
theorem Fit_spec (o : OtsV) (t : TreeV) :
    Con Tryz.prog 127 #[.agg (List.toArray o.cells), .agg (List.toArray t.cells)] G M L (fun v M' L' => M = M' ∧ L = L' ∧ v = .bool (decide (o.kind = t.kind ∧ o.n = t.n))) noPanic := by
  refine enter (args := [_, _]) (fn := Tryz.f127) ⟨Tryz.func127, rfl, by kernel_rfl, by kernel_rfl⟩ 17 rfl ?_
  refine x_seq (x_region ?_)
  refine tl_e rfl (e_box rfl (fun b1 => ?_))
  refine tl_e rfl (e_box rfl (fun b2 => ?_))
  refine tl_y rfl (y_assign rfl) ?_
  refine tl_nil (.then_normal ?_)
  refine x_seq (x_region ?_)
  refine tl_y rfl (y_fieldAddr rfl) ?_
  refine tl_y rfl (y_load rfl rfl (.own inferInstance inferInstance)) ?_
  refine tl_y rfl (y_fieldAddr rfl) ?_
  refine tl_y rfl (y_load rfl rfl (.own inferInstance inferInstance)) ?_
  refine tl_y rfl (y_eql rfl rfl) ?_
  refine tl_y rfl (y_move (v := .bool _) rfl) ?_
  refine tl_cases (s := 10) rfl (fun hk1 => ?_) (fun hk1 => ?_)
  ·
    refine tl_y rfl (y_fieldAddr rfl) ?_
    refine tl_y rfl (y_load rfl rfl (.own inferInstance inferInstance)) ?_
    refine tl_y rfl (y_fieldAddr rfl) ?_
    refine tl_y rfl (y_load rfl rfl (.own inferInstance inferInstance)) ?_
    refine tl_y rfl (y_eql rfl rfl) ?_
    refine tl_y rfl (y_pickT rfl rfl) ?_
    refine tl_y rfl (y_assign (v := .bool _) rfl) ?_
    refine tl_nil (.then_normal ?_)
    refine .sub (F' := [(4, _)]) (.cons rfl .nil) ?_
    refine x_ret (.dropTo L inferInstance (ret1 rfl rfl (Le.refl _) ⟨rfl, rfl, by simp [hk1]⟩))
  ·
    refine tl_skip rfl ?_
    refine tl_skip rfl ?_
    refine tl_skip rfl ?_
    refine tl_skip rfl ?_
    refine tl_skip rfl ?_
    refine tl_y rfl (y_pickF rfl rfl) ?_
    refine tl_y rfl (y_assign (v := .bool _) rfl) ?_
    refine tl_nil (.then_normal ?_)
    refine .sub (F' := [(4, _)]) (.cons rfl .nil) ?_
    refine x_ret (.dropTo L inferInstance (ret1 rfl rfl (Le.refl _) ⟨rfl, rfl, by simp [hk1]⟩))
theorem of_spec (hg : HsG M) (p : PairV) :
    Con Tryz.prog 58 #[.agg (List.toArray p.cells)] G M L (fun v M' L' => L' = L ∧ okP p ∧ v = .agg (List.toArray (pcells (otsV p.o) (treeV p.t)))) (fun ch M' L' => L' = L ∧ ¬ okP p ∧ ch = lwrong 4) := by
  refine enter (args := [_]) (fn := Tryz.f58) ⟨Tryz.func58, rfl, by kernel_rfl, by kernel_rfl⟩ 34 rfl ?_
  refine x_seq (x_region ?_)
  refine tl_e rfl (e_box rfl (fun b1 => ?_))
  refine tl_e rfl (e_alloc (fun b2 => ?_))
  refine tl_nil (.then_normal ?_)
  refine x_seq (x_region ?_)
  refine tl_y rfl (y_fieldAddr rfl) ?_
  refine tl_y rfl (y_load rfl rfl (.own inferInstance inferInstance)) ?_
  refine tl_e rfl (e_call' rfl (Ots_spec hg.o p.o) ?_)
  rintro _ M1 _ hM1 ⟨rfl, rfl⟩
  refine tl_y rfl (y_move (v := .tuple _) rfl) ?_
  refine tl_y rfl (y_extract rfl) ?_
  refine tl_y rfl (y_extract rfl) ?_
  refine tl_e rfl (e_alloc (fun b3 => ?_))
  refine tl_e rfl (e_store rfl rfl (by rfl) (by rfl) inferInstance inferInstance inferInstance ?_)
  refine tl_y rfl (y_assign (v := .int _ _) rfl) ?_
  refine tl_nil (.then_normal ?_)
  refine .sub (F' := [(1, _), (2, _), (3, _), (4, _)]) (.cons rfl (.cons rfl (.cons rfl (.cons rfl .nil)))) ?_
  refine x_seq (x_region ?_)
  refine tl_y rfl (y_fieldAddr rfl) ?_
  refine tl_y rfl (y_load rfl rfl (.own inferInstance inferInstance)) ?_
  refine tl_e rfl (e_call' rfl (Tree_spec (hg.mono hM1).t p.t) ?_)
  rintro _ M2 _ hM2 ⟨rfl, rfl⟩
  have hm := hM1.trans hM2
  refine tl_y rfl (y_move (v := .tuple _) rfl) ?_
  refine tl_y rfl (y_extract rfl) ?_
  refine tl_y rfl (y_extract rfl) ?_
  refine tl_e rfl (e_alloc (fun b4 => ?_))
  refine tl_e rfl (e_store rfl rfl (by rfl) (by rfl) inferInstance inferInstance inferInstance ?_)
  refine tl_y rfl (y_assign (v := .int _ _) rfl) ?_
  refine tl_nil (.then_normal ?_)
  refine .sub (F' := [(2, _), (3, _), (4, _), (5, _), (6, _)]) (.cons rfl (.cons rfl (.cons rfl (.cons rfl (.cons rfl .nil))))) ?_
  refine x_seq (x_region ?_)
  refine tl_y rfl (y_move (v := .int _ _) rfl) ?_
  refine tl_y rfl (y_eql rfl rfl) ?_
  refine tl_y rfl (y_move (v := .bool _) rfl) ?_
  refine tl_cases (s := 21) rfl (fun hk1 => ?_) (fun hk1 => ?_)
  ·
    refine tl_y rfl (y_move (v := .int _ _) rfl) ?_
    refine tl_y rfl (y_eql rfl rfl) ?_
    refine tl_y rfl (y_pickT rfl rfl) ?_
    refine tl_y rfl (y_move (v := .bool _) rfl) ?_
    refine tl_cases (s := 25) rfl (fun hk2 => ?_) (fun hk2 => ?_)
    ·
      refine tl_y rfl (y_loadAgg rfl rfl (.own inferInstance inferInstance)) ?_
      refine tl_y rfl (y_loadAgg rfl rfl (.own inferInstance inferInstance)) ?_
      refine tl_e rfl (e_call' rfl (Fit_spec _ _) ?_)
      rintro _ _ _ _ ⟨rfl, rfl, rfl⟩
      refine tl_y rfl (y_pickT rfl rfl) ?_
      refine tl_e rfl (e_call rfl (lmust_spec _ _) (by
        rintro _ _ _ _ ⟨rfl, rfl, ht, rfl⟩
        exact TP.dropTo L inferInstance (.retA rfl hm ⟨rfl, fun h => by have := h.2.2; simp [this] at ht, rfl⟩)) ?_)
      rintro _ _ _ _ ⟨rfl, rfl, ht⟩
      refine tl_nil (.then_normal ?_)
      refine .sub (F' := [(2, _), (3, _), (5, _)]) (.cons rfl (.cons rfl (.cons rfl .nil))) ?_
      refine x_seq (x_region ?_)
      refine tl_y rfl (y_loadAgg rfl rfl (.own inferInstance inferInstance)) ?_
      refine tl_y rfl (y_loadAgg rfl rfl (.own inferInstance inferInstance)) ?_
      refine tl_y rfl (y_build rfl) ?_
      refine tl_e rfl (e_store rfl rfl (by rfl) (by rfl) inferInstance inferInstance inferInstance ?_)
      refine tl_nil (.then_normal ?_)
      refine .sub (F' := [(2, _)]) (.cons rfl .nil) ?_
      refine x_ret (retRV (L' := L) (rv1 rfl (rc_cellAgg (by rfl) rfl (.own inferInstance inferInstance))) inferInstance hm ⟨rfl, ⟨hk1, hk2, by simpa using ht⟩, rfl⟩)
    ·
      refine tl_skip rfl ?_
      refine tl_skip rfl ?_
      refine tl_skip rfl ?_
      refine tl_y rfl (y_pickF rfl rfl) ?_
      refine tl_e rfl (e_call rfl (lmust_spec _ _) (by
        rintro _ _ _ _ ⟨rfl, rfl, ht, rfl⟩
        exact TP.dropTo L inferInstance (.retA rfl hm ⟨rfl, fun h => hk2 h.2.1, rfl⟩)) ?_)
      rintro _ _ _ _ ⟨rfl, rfl, ht⟩
      refine tl_nil (.then_normal ?_)
      refine .sub (F' := [(2, _), (3, _), (5, _)]) (.cons rfl (.cons rfl (.cons rfl .nil))) ?_
      refine x_seq (x_region ?_)
      refine tl_y rfl (y_loadAgg rfl rfl (.own inferInstance inferInstance)) ?_
      refine tl_y rfl (y_loadAgg rfl rfl (.own inferInstance inferInstance)) ?_
      refine tl_y rfl (y_build rfl) ?_
      refine tl_e rfl (e_store rfl rfl (by rfl) (by rfl) inferInstance inferInstance inferInstance ?_)
      refine tl_nil (.then_normal ?_)
      refine .sub (F' := [(2, _)]) (.cons rfl .nil) ?_
      refine x_ret (absurd ht (by simp))
  ·
    refine tl_skip rfl ?_
    refine tl_skip rfl ?_
    refine tl_y rfl (y_pickF rfl rfl) ?_
    refine tl_y rfl (y_move (v := .bool _) rfl) ?_
    refine tl_skip rfl ?_
    refine tl_skip rfl ?_
    refine tl_skip rfl ?_
    refine tl_y rfl (y_pickF rfl rfl) ?_
    refine tl_e rfl (e_call rfl (lmust_spec _ _) (by
      rintro _ _ _ _ ⟨rfl, rfl, ht, rfl⟩
      exact TP.dropTo L inferInstance (.retA rfl hm ⟨rfl, fun h => hk1 h.1, rfl⟩)) ?_)
    rintro _ _ _ _ ⟨rfl, rfl, ht⟩
    refine tl_nil (.then_normal ?_)
    refine .sub (F' := [(2, _), (3, _), (5, _)]) (.cons rfl (.cons rfl (.cons rfl .nil))) ?_
    refine x_seq (x_region ?_)
    refine tl_y rfl (y_loadAgg rfl rfl (.own inferInstance inferInstance)) ?_
    refine tl_y rfl (y_loadAgg rfl rfl (.own inferInstance inferInstance)) ?_
    refine tl_y rfl (y_build rfl) ?_
    refine tl_e rfl (e_store rfl rfl (by rfl) (by rfl) inferInstance inferInstance inferInstance ?_)
    refine tl_nil (.then_normal ?_)
    refine .sub (F' := [(2, _)]) (.cons rfl .nil) ?_
    refine x_ret (absurd ht (by simp))
theorem May1_spec (hg : HsG M) (p : PairV) {b : Nat} [hb : Has L b (.cells (List.toArray p.cells) 24 (0, 0))] :
    Con Tryz.prog 60 #[.pointer (some ⟨b, 0, none⟩)] G M L (fun v M' L' => L' = L ∧ ∃ (o : OtsV) (t : TreeV), v = .agg (List.toArray (pcells o t)) ∧ okP p) (fun ch M' L' => L' = L ∧ ∃ e, (¬ okP p ∧ e = 4) ∧ ch = lwrong e) := by
  refine enter (args := [_]) (fn := Tryz.f60) ⟨Tryz.func60, rfl, by kernel_rfl, by kernel_rfl⟩ 4 rfl ?_
  refine x_seq (x_region ?_)
  refine tl_e rfl (e_alloc (fun b1 => ?_))
  refine tl_nil (.then_normal ?_)
  refine x_seq (x_region ?_)
  refine tl_y rfl (y_loadAgg rfl rfl (.own inferInstance inferInstance)) ?_
  refine tl_e rfl (e_call rfl (of_spec hg p) (by
    rintro _ M1 _ hM1 ⟨rfl, hno, rfl⟩
    exact TP.dropTo L inferInstance (.retA rfl hM1 ⟨rfl, 4, ⟨hno, rfl⟩, rfl⟩)) ?_)
  rintro _ M1 _ hM1 ⟨rfl, hok, rfl⟩
  refine tl_e rfl (e_store rfl rfl (by rfl) (by rfl) inferInstance inferInstance inferInstance ?_)
  refine tl_nil (.then_normal ?_)
  refine x_ret (retRV (L' := L) (rv1 rfl (rc_cellAgg (by rfl) rfl (.own inferInstance inferInstance))) inferInstance hM1 ⟨rfl, _, _, rfl, hok⟩)
theorem lMay_spec (hg : HsG M) (p : PairV) :
    Con Tryz.prog 18 #[.agg (List.toArray p.cells)] G M L (fun v M' L' => L' = L ∧ v = .bool (decide (okP p))) noPanic := by
  refine enter (args := [_]) (fn := Tryz.f18) ⟨Tryz.func18, rfl, by kernel_rfl, by kernel_rfl⟩ 12 rfl ?_
  refine x_seq (x_region ?_)
  refine tl_e rfl (e_box rfl (fun b1 => ?_))
  refine tl_y rfl (y_assign rfl) ?_
  refine tl_nil (.then_normal ?_)
  refine x_seq (x_region ?_)
  refine tl_y rfl (y_makeFunc rfl rfl) ?_
  refine tl_e rfl (e_call' rfl (caughtP_spec (K := fun _ _ _ => okP p) (Kp := fun e => ¬ okP p ∧ e = 4) (first := []) (cap := [.pointer (some ⟨b1, 0, none⟩)]) (fun p' q' => May1_spec hg p)) ?_)
  rintro v M1 _ hM1 ⟨rfl, hv⟩
  obtain ⟨o, t, e, rfl, he⟩ : ∃ (o : OtsV) (t : TreeV) (e : Int), v = .tuple #[.agg (List.toArray (pcells o t)), .int .i64 e] ∧ (e = 0 ↔ okP p) := by
    rcases hv with ⟨o, t, rfl, hok⟩ | ⟨e, rfl, hno, rfl⟩
    · exact ⟨o, t, 0, rfl, iff_of_true rfl hok⟩
    · exact ⟨ots0, tree0, 4, rfl, iff_of_false (by decide) hno⟩
  refine tl_y rfl (y_move (v := .tuple _) rfl) ?_
  refine tl_y rfl (y_extract rfl) ?_
  refine tl_y rfl (y_extract rfl) ?_
  refine tl_e rfl (e_alloc (fun b2 => ?_))
  refine tl_e rfl (e_store rfl rfl (by rfl) (by rfl) inferInstance inferInstance inferInstance ?_)
  refine tl_y rfl (y_assign (v := .int _ _) rfl) ?_
  refine tl_nil (.then_normal ?_)
  refine .sub (F' := [(4, _)]) (.cons rfl .nil) ?_
  refine x_seq (x_region ?_)
  refine tl_y rfl (y_move (v := .int _ _) rfl) ?_
  refine tl_y rfl (y_eql rfl rfl) ?_
  refine tl_y rfl (y_assign (v := .bool _) rfl) ?_
  refine tl_nil (.then_normal ?_)
  refine x_ret (.dropTo L inferInstance (ret1 rfl rfl hM1 ⟨rfl, by rw [decide_eq_decide.2 he]⟩))
end
end Go.Proofs.YtiimjodbaogjbaaGreatDoor
