/-
Contracts of functions, each proved by a walk through its code.
-/
import Derived.Test.YtplkoemjffplcaaGreatDoorSets3Etc
import Derived.Test.YtplkoemjffplcaaGreatDoorShaEtc
import Derived.Test.YtplkoemjffplcaaGreatDoorEngWEtc
import Derived.Test.YtplkoemjffplcaaGreatDoorOncePureEtc
set_option linter.all false
namespace Go.Proofs.YtplkoemjffplcaaGreatDoor
open Go Go.Eng
def clX (t : TreeV) (name : List UInt8) (way : List (List UInt8)) (p : Nat) (x : List UInt8) : Nat → List UInt8
 | 0 => x
 | k + 1 => innB t name (p / pw2 (k + 1)) (if p / pw2 k % 2 = 1 then way.getD k [] ++ clX t name way p x k else clX t name way p x k ++ way.getD k [])
theorem clX_le (t : TreeV) (name : List UInt8) (way : List (List UInt8)) (p : Nat) {x : List UInt8} (hx : x.length ≤ 32) : ∀ k, (clX t name way p x k).length ≤ 32
 | 0 => hx
 | k + 1 => innB_le _ _ _ _
def okW (t : TreeV) (nl q : Nat) (way : List (List UInt8)) : Prop := okS t nl ∧ q < leavesN t.h ∧ (way.length : Int) = t.h ∧ ∀ b ∈ way, (b.length : Int) = t.n
instance {t : TreeV} {nl q : Nat} {way : List (List UInt8)} : Decidable (okW t nl q way) := inferInstanceAs (Decidable (_ ∧ _))
def climbB (t : TreeV) (name : List UInt8) (q : Nat) (key : List UInt8) (way : List (List UInt8)) : List UInt8 :=
 if okW t name.length q way then clX t name way (pw2 t.h.toNat + q) (leafB t name q key) way.length else []
def climbE (t : TreeV) (nl q : Nat) (way : List (List UInt8)) : Int := if okW t nl q way then 0 else 1
def anyBad (n : Int) (way : List (List UInt8)) : Bool := way.any fun b => decide ((b.length : Int) ≠ n)
theorem anyBad_iff {n : Int} {way : List (List UInt8)} : anyBad n way = false ↔ ∀ b ∈ way, (b.length : Int) = n := by
 unfold anyBad
 rw [List.any_eq_false]
 simp
theorem div_pw2 (p k : Nat) : p / pw2 k / 2 = p / pw2 (k + 1) := by rw [Nat.div_div_eq_div_mul, pw2, pw2, Nat.pow_succ]
section
variable {G : World} {M : Mem} {L : Own}
theorem climb1_spec (t : TreeV) {b1 : Nat} [hb : Has L b1 (.cells (List.toArray t.cells) 105 (0, 0))] {A : Option Addr} {n c : Nat} :
  Con Tryz.prog 225 #[.slice A n c, .pointer (some ⟨b1, 0, none⟩)] G M L (fun v M' L' => M = M' ∧ L = L' ∧ v = .bool (decide ((n : Int) ≠ t.n))) noPanic := by
 refine en Tryz.func225 rfl 9 rfl <| zr <| as0 rfl rfl <| zq <| zr <| mvS rfl rfl <| tLen rfl rfl <| tFa rfl rfl <| tLd rfl rfl rfl <| tl_y rfl (y_neq rfl rfl) <| asB rfl rfl <| zq <| .s1 3 rfl <| x_ret (ret1 rfl rfl (Le.refl _) ⟨rfl, rfl, rfl⟩)
theorem indexFuncM_spec (t : TreeV) {b1 : Nat} [hb : Has L b1 (.cells (List.toArray t.cells) 105 (0, 0))] {A : Option Addr} {n c : Nat} {vs : List Value} {way : List (List UInt8)} (h : Row M 1 A n c vs) (hw : BRows M vs way) :
  Con Tryz.prog 259 #[.slice A n c, .func (.func 225) #[] #[.pointer (some ⟨b1, 0, none⟩)]] G M L (fun v M' L' => M = M' ∧ L = L' ∧ ∃ r : Int, v = .int .i64 r ∧ (0 ≤ r ↔ anyBad t.n way = true)) noPanic := by
 have hmx := h.max
 have hle := h.le
 have hvl := hw.len
 have hnl : vs.length = n := by have := h.len; omega
 refine en Tryz.func259 rfl 19 rfl <| zr <| as0 rfl rfl <| zq <| zr2 <| mvS rfl rfl <| tLen rfl rfl <| mv0 rfl rfl <| zq <| x_block ?_
 refine x_loop (I := fun m' F D M1 L1 => ∃ k : Nat, m' = n - k ∧ k ≤ n ∧ anyBad t.n (way.take k) = false ∧ D = [] ∧ M = M1 ∧ L = L1 ∧ F = [(0, .slice A n c), (1, .func (.func 225) #[] #[.pointer (some ⟨b1, 0, none⟩)]), (4, .int .i64 0), (7, .int .i64 n), (8, .int .i64 k)]) (n) (F0 := [(0, _), (1, _), (4, _), (7, _), (8, _)]) ?_ (cs5 rfl rfl rfl rfl rfl) ?_
 ·
  exact ⟨0, rfl, by omega, rfl, rfl, rfl, rfl, rfl⟩
 rintro m _ _ M1 L1 ⟨k, rfl, hk, hb0, rfl, rfl, rfl, rfl⟩
 refine zr <| tl_y rfl (y_lss rfl rfl) <| zq <| x_seq <| x_cond rfl (fun hc1 => ?_) (fun hc1 => ?_)
 ·
  have hkn : k < n := by omega
  obtain ⟨g, o, rfl, hca⟩ := h.addr (by omega)
  obtain ⟨A2, n2, c2, hv2, hb2⟩ := hw.get k (by omega)
  have hn2 := hb2.size
  refine x_skip <| .then_normal <| x_seq <| x_block <| zr <| mvI rfl rfl <| asI rfl rfl <| zq <| zr <| mvF rfl rfl <| mvS rfl rfl <| mvI rfl rfl <| tl_y rfl (y_indexAddr rfl rfl (by omega)) <| tl_y rfl (y_load rfl rfl (.at_ (hca _ k _ hv2) (by omega))) <| tl_e rfl <| e_callv rfl rfl (climb1_spec t) (fun _ _ _ _ h => h.elim) ?_
  rintro _ _ _ _ ⟨rfl, rfl, rfl⟩
  refine zq <| .s7 0 1 4 5 7 8 16 rfl rfl rfl rfl rfl rfl rfl <| x_cond rfl (fun hc2 => ?_) (fun hc2 => ?_)
  ·
   refine zr <| mvI rfl rfl <| asI rfl rfl <| zq <| x_ret (.block_ret (.then_ret (.loop_ret (.block_ret (.then_ret (ret1 rfl rfl (Le.refl _) ⟨rfl, rfl, _, rfl, iff_of_true (by omega) (by
    unfold anyBad
    rw [List.any_eq_true]
    exact ⟨_, getD_mem way k [] (by omega), decide_eq_true (by omega)⟩)⟩))))))
  refine x_skip <| .block_normal <| .then_normal <| x_region <| tl_y rfl (y_addI rfl rfl (by omega)) <| mvI rfl rfl <| tl_nil <| .loop_next (m' := n - (k + 1)) (by omega) (F' := [(0, _), (1, _), (4, _), (7, _), (8, _)]) (cs5 rfl rfl rfl rfl rfl) ?_
  exact ⟨k + 1, rfl, by omega, by
   rw [take_snoc way k [] (by omega)]
   rw [anyBad_iff] at hb0 ⊢
   intro b hb
   rcases List.mem_append.1 hb with hb | hb
   ·
    exact hb0 b hb
   obtain rfl := List.mem_singleton.1 hb
   omega, rfl, rfl, rfl, rfl⟩
 refine x_exit <| .then_exit <| .loop_exit <| .block_exit <| .then_normal <| .s0 <| zr <| as0 rfl rfl <| zq <| x_ret (ret1 rfl rfl (Le.refl _) ⟨rfl, rfl, _, rfl, iff_of_false (by omega) (by
  rw [List.take_of_length_le (by omega)] at hb0
  rw [hb0]; simp)⟩)
theorem Climb_spec (hg : MrG M) (t : TreeV) {NA : Option Addr} {nl nc : Nat} {name : List UInt8} (hname : Bytes M NA nl nc name) (q : UInt32) {KA : Option Addr} {kl kc : Nat} {key : List UInt8} (hkey : Bytes M KA kl kc key) (hkl : kl ≤ 1000000000000) {WA : Option Addr} {wl wc : Nat} {wvs : List Value} {way : List (List UInt8)} (h : Row M 1 WA wl wc wvs) (hw : BRows M wvs way) :
  Con Tryz.prog 173 #[.agg (List.toArray t.cells), .slice NA nl nc, .int .u32 (q.toNat : Int), .slice KA kl kc, .slice WA wl wc] G M L (fun v M' L' => L = L' ∧ ∃ A' m' c', v = .tuple #[.slice A' m' c', .int .i64 (climbE t nl q.toNat way)] ∧ Bytes M' A' m' c' (climbB t name q.toNat key way)) noPanic := by
 have hmx := h.max
 have hle := h.le
 have hvl := hw.len
 have hwn : wvs.length = wl := by have := h.len; omega
 have hnl := hname.size
 have hqq := q.toNat_lt
 have hcf : ∀ b1 : Nat, Con Tryz.prog 224 #[.slice WA wl wc, .func (.func 225) #[] #[.pointer (some ⟨b1, 0, none⟩)]] G M ((b1, .cells (List.toArray t.cells) 105 (0, 0)) :: L) (fun v M' L' => M = M' ∧ (b1, .cells (List.toArray t.cells) 105 (0, 0)) :: L = L' ∧ v = .bool (anyBad t.n way)) noPanic := by
  intro b1
  refine en Tryz.func224 rfl 9 rfl <| zr <| as0 rfl rfl <| zq <| zr <| mvS rfl rfl <| mvF rfl rfl <| ec rfl rfl (indexFuncM_spec t h hw) ?_
  rintro _ _ _ _ ⟨rfl, rfl, r, rfl, hr⟩
  refine tl_y rfl (y_geq rfl rfl) <| asB rfl rfl <| zq <| .s1 4 rfl <| x_ret (ret1 rfl rfl (Le.refl _) ⟨rfl, rfl, by
   congr 1
   rw [Bool.eq_iff_iff, decide_eq_true_iff]
   exact hr⟩)
 have hno : ∀ {A' : Option Addr} {m' c' : Nat} {M' : Mem}, ¬ okW t nl q.toNat way → ∃ A' m' c', (Value.tuple #[.slice none 0 0, .int .i64 1]) = .tuple #[.slice A' m' c', .int .i64 (climbE t nl q.toNat way)] ∧ Bytes M' A' m' c' (climbB t name q.toNat key way) := by
  intro _ _ _ M' hn
  rw [climbE, if_neg hn, climbB, if_neg (by rw [hnl]; exact hn)]
  exact ⟨_, _, _, rfl, Row.nil _ _⟩
 refine en Tryz.func173 rfl 80 rfl <| zr <| tl_e rfl <| e_box rfl <| fun b1 => as0 rfl rfl <| as0 rfl rfl <| zq <| zr <| mvS rfl rfl <| tl_y rfl (y_makeFunc rfl rfl) <| ec rfl rfl (hcf b1) ?_
 rintro _ _ _ _ ⟨rfl, rfl, rfl⟩
 refine asB rfl rfl <| zq <| .s6 1 2 3 4 5 12 rfl rfl rfl rfl rfl rfl <| zr2 <| tLg rfl rfl rfl <| mvS rfl rfl <| ec rfl rfl (mright_spec hg t) ?_
 rintro _ M1 _ hM1 ⟨rfl, rfl⟩
 refine tl_y rfl (y_notd rfl) <| mvB rfl rfl <| tl_cases (s := 25) rfl (fun hk1 => ?_) (fun hk1 => ?_)
 ·
  refine tl_skip rfl <| tl_skip rfl <| tl_skip rfl <| tl_skip rfl <| tl_skip rfl <| tPt rfl rfl rfl <| mvB rfl rfl <| tl_skip rfl <| tl_skip rfl <| tl_skip rfl <| tl_skip rfl <| tl_skip rfl <| tPt rfl rfl rfl <| mvB rfl rfl <| tl_skip rfl <| tPt rfl rfl rfl <| zq <| .s6 1 2 3 4 5 41 rfl rfl rfl rfl rfl rfl <| x_true rfl rfl <| zr <| as0 rfl rfl <| as0 rfl rfl <| zq <| .s2 10 11 rfl rfl <| x_ret (.then_ret (.dropTo L ii (ret2 rfl rfl rfl hM1 ⟨rfl, hno (A' := none) (m' := 0) (c' := 0) (fun h => hk1 h.1)⟩)))
 have hok : okS t nl := Classical.not_not.1 hk1
 obtain ⟨hokc, H, hH, hH1, hH25, hlv⟩ := okS_facts hok
 have hpw := pw2_25 hH25
 refine mvI rfl rfl <| tl_y rfl (y_convN64 rfl (by omega)) <| tLg rfl rfl rfl <| ec rfl rfl (Leaves_spec t) ?_
 rintro _ _ _ _ ⟨rfl, rfl, rfl⟩
 rw [hlv]
 refine tl_y rfl (y_geq rfl rfl) <| tPf rfl rfl rfl <| mvB rfl rfl <| tl_cases (s := 32) rfl (fun hk2 => ?_) (fun hk2 => ?_)
 ·
  refine tl_skip rfl <| tl_skip rfl <| tl_skip rfl <| tl_skip rfl <| tl_skip rfl <| tPt rfl rfl rfl <| mvB rfl rfl <| tl_skip rfl <| tPt rfl rfl rfl <| zq <| .s6 1 2 3 4 5 41 rfl rfl rfl rfl rfl rfl <| x_true rfl rfl <| zr <| as0 rfl rfl <| as0 rfl rfl <| zq <| .s2 10 11 rfl rfl <| x_ret (.then_ret (.dropTo L ii (ret2 rfl rfl rfl hM1 ⟨rfl, hno (A' := none) (m' := 0) (c' := 0) (fun h => by have := h.2.1; omega)⟩)))
 refine mvS rfl rfl <| tLen rfl rfl <| tFa rfl rfl <| tLd rfl rfl rfl <| tl_y rfl (y_neq rfl rfl) <| tPf rfl rfl rfl <| mvB rfl rfl <| tl_cases (s := 39) rfl (fun hk3 => ?_) (fun hk3 => ?_)
 ·
  refine tl_skip rfl <| tPt rfl rfl rfl <| zq <| .s6 1 2 3 4 5 41 rfl rfl rfl rfl rfl rfl <| x_true rfl rfl <| zr <| as0 rfl rfl <| as0 rfl rfl <| zq <| .s2 10 11 rfl rfl <| x_ret (.then_ret (.dropTo L ii (ret2 rfl rfl rfl hM1 ⟨rfl, hno (A' := none) (m' := 0) (c' := 0) (fun h => by have := h.2.2.1; omega)⟩)))
 refine mvB rfl rfl <| tPf rfl rfl rfl <| zq <| .s6 1 2 3 4 5 41 rfl rfl rfl rfl rfl rfl <| x_condb rfl (fun hc1 => ?_) (fun hc1 => ?_)
 ·
  refine zr <| as0 rfl rfl <| as0 rfl rfl <| zq <| .s2 10 11 rfl rfl <| x_ret (.then_ret (.dropTo L ii (ret2 rfl rfl rfl hM1 ⟨rfl, hno (A' := none) (m' := 0) (c' := 0) (fun h => by rw [anyBad_iff.2 h.2.2.2] at hc1; cases hc1)⟩)))
 have hokW : okW t nl q.toNat way := ⟨hok, by omega, by omega, anyBad_iff.1 (by simpa using hc1)⟩
 have hq : q.toNat < pw2 H := by omega
 have hwl : wl = H := by omega
 obtain ⟨p, hp⟩ : ∃ p, p = pw2 H + q.toNat := ⟨_, rfl⟩
 refine x_skip <| .then_normal <| x_seq <| x_draw 12 hmix rfl <| zy 0 rfl rfl (y_lg rfl rfl) <| zp 1 rfl rfl (y_move (v := .slice _ _ _) rfl) <| zp 2 rfl rfl (y_move (v := .int _ _) rfl) <| zp 3 rfl rfl (y_move (v := .slice _ _ _) rfl) <| zp 5 rfl rfl (y_fieldAddr rfl) <| zy 6 rfl rfl (y_load (v := .int .i64 ((H : Nat) : Int)) rfl rfl (by rw [← hH]; exact .own ii ii)) <| zp 7 rfl rfl (y_shl32 (a := 1) rfl rfl) ?_
 rw [show u32v (shl32 1 H) = .int .u32 ((pw2 H : Nat) : Int) from congrArg (fun (x : Nat) => Value.int .u32 (x : Int)) (shl32_h hH25)]
 refine zp 8 rfl rfl (y_move (v := .int _ _) rfl) <| zp 9 rfl rfl (y_addN32 rfl rfl (by omega)) ?_
 rw [show ((pw2 H : Nat) : Int) + (q.toNat : Int) = ((p / pw2 0 : Nat) : Int) by rw [show pw2 0 = 1 from rfl, Nat.div_one, hp]; omega]
 refine ze 4 rfl rfl <| e_call' rfl (leaf_spec (hg.mono hM1) t hH hH25 (hname.mono hM1) q hq (hkey.mono hM1) hkl) ?_
 rintro _ M2 _ hM2 ⟨rfl, A2, n2, c2, rfl, hA2⟩
 refine ⟨⟨hM2, Keeps.mem⟩, ?_⟩
 refine zp 10 rfl rfl (y_assign (v := .slice _ _ _) rfl) <| zp 11 rfl rfl (y_assign (v := .int _ _) rfl) <| zz <| .then_normal <| .s5 1 4 5 13 14 rfl rfl rfl rfl rfl <| zr2 <| mvS rfl rfl <| tLen rfl rfl <| mv0 rfl rfl <| zq <| x_block ?_
 refine x_loop (I := fun m' F D M3 L3 => ∃ (k : Nat) (A3 : Option Addr) (n3 c3 : Nat), m' = wl - k ∧ k ≤ wl ∧ Le M2 M3 ∧ Bytes M3 A3 n3 c3 (clX t name way p (leafB t name q.toNat key) k) ∧ D = [] ∧ (b1, .cells (List.toArray t.cells) 105 (0, 0)) :: L = L3 ∧ F = [(1, .slice NA nl nc), (5, .pointer (some ⟨b1, 0, none⟩)), (13, .slice A3 n3 c3), (14, .int .u32 ((p / pw2 k : Nat) : Int)), (52, .slice WA wl wc), (53, .int .i64 wl), (54, .int .i64 k)]) (wl) (F0 := [(1, _), (5, _), (13, _), (14, _), (52, _), (53, _), (54, _)]) ?_ (cs7 rfl rfl rfl rfl rfl rfl rfl) ?_
 ·
  exact ⟨0, A2, n2, c2, rfl, by omega, Le.refl _, hA2, rfl, rfl, rfl⟩
 rintro m _ _ M3 _ ⟨k, A3, n3, c3, rfl, hkk, he, hA3, rfl, rfl, rfl⟩
 refine zr <| tl_y rfl (y_lss rfl rfl) <| zq <| x_seq <| x_cond rfl (fun hc2 => ?_) (fun hc2 => ?_)
 ·
  have hkw : k < wl := by omega
  have hd3 := hM1.trans (hM2.trans he)
  obtain ⟨g, o, rfl, hcell⟩ := (h.mono hd3).addr (by omega)
  obtain ⟨A4, n4, c4, hv4, hb4⟩ := hw.get k (by omega)
  have hn4 := hb4.size
  have hn4' := hokW.2.2.2 _ (getD_mem way k [] (by omega))
  have hn3 := hA3.size
  have hn3' := clX_le t name way p (leafB_le t name q.toNat key) k
  have hbig : t.n ≤ 32 := by rcases hokc.2 with h | h <;> omega
  have hdl := Nat.div_le_self p (pw2 (k + 1))
  obtain ⟨y, hy⟩ : ∃ y : UInt32, y.toNat = p / pw2 (k + 1) := ⟨UInt32.ofNat (p / pw2 (k + 1)), by rw [UInt32.toNat_ofNat', Nat.mod_eq_of_lt (by omega)]⟩
  obtain ⟨z, hz⟩ : ∃ z, z = p / pw2 k := ⟨_, rfl⟩
  have hyz : y.toNat = z / 2 := by rw [hy, hz, div_pw2]
  have hzl : z ≤ p := by rw [hz]; exact Nat.div_le_self _ _
  clear hdl
  rw [← hz]
  refine x_skip <| .then_normal <| x_seq <| x_block <| zr <| tl_y rfl (y_indexAddr rfl rfl (by omega)) <| tl_y rfl (y_load rfl rfl (.at_ (hcell _ k _ hv4) (by omega))) <| asS rfl rfl <| zq <| zr <| mvS rfl rfl <| mvS rfl rfl <| tl_y rfl (y_buildArr rfl) <| tl_e rfl <| e_alloc <| fun b2 => tl_e rfl <| e_st rfl rfl (by rfl) (by rfl) <| zq <| .sub (F' := [(1, _), (5, _), (13, _), (14, _), (16, _), (17, _), (52, _), (53, _), (54, _)]) (cs9 rfl rfl rfl rfl rfl rfl rfl rfl rfl) <| zr2 <| mvI rfl rfl <| tl_y rfl (y_remI rfl rfl (by omega)) <| tl_y rfl (y_eql rfl rfl) <| zq <| x_cond rfl (fun hc3 => ?_) (fun hc3 => ?_)
  ·
   refine x_region <| mvS rfl rfl <| mvS rfl rfl <| tl_y rfl (y_buildArr rfl) <| tl_e rfl <| e_st rfl rfl (by rfl) (by rfl) <| zq <| .s8 1 5 13 14 17 52 53 54 rfl rfl rfl rfl rfl rfl rfl rfl <| zr <| mvI rfl rfl <| tl_y rfl (y_quoN32 rfl rfl (by omega)) ?_
   rw [show ((z : Nat) : Int) / 2 = ((y.toNat : Nat) : Int) by rw [hyz]; omega]
   refine asI rfl rfl <| zq <| x_region <| tLg rfl rfl rfl <| mvS rfl rfl <| mvI rfl rfl <| tl_y rfl (y_indexArrK 0 rfl rfl (by omega)) <| tLd rfl rfl rfl <| tl_y rfl (y_indexArrK 1 rfl rfl (by omega)) <| tLd rfl rfl rfl <| ec rfl rfl (inner_spec (hg.mono hd3) t (hname.mono hd3) y (hb4.mono hd3) (by omega) hA3 (by omega)) ?_
   rintro _ M5 _ hM5 ⟨rfl, A5, n5, c5, rfl, hA5⟩
   rw [hy] at hA5 ⊢
   refine asS rfl rfl <| tl_nil <| .block_normal <| .then_normal <| .s7 1 5 13 14 52 53 54 rfl rfl rfl rfl rfl rfl rfl <| x_region <| tl_y rfl (y_addI rfl rfl (by omega)) <| mvI rfl rfl <| .dropTo ((b1, .cells (List.toArray t.cells) 105 (0, 0)) :: L) ii <| tl_nil <| .loop_next (m' := wl - (k + 1)) (by omega) (F' := [(1, _), (5, _), (13, _), (14, _), (52, _), (53, _), (54, _)]) (cs7 rfl rfl rfl rfl rfl rfl rfl) ?_
   exact ⟨k + 1, A5, n5, c5, rfl, by omega, he.trans hM5, by rw [clX, ← hz, if_pos (by omega)]; exact hA5, rfl, rfl, rfl⟩
  refine x_skip <| .then_normal <| .s8 1 5 13 14 17 52 53 54 rfl rfl rfl rfl rfl rfl rfl rfl <| zr <| mvI rfl rfl <| tl_y rfl (y_quoN32 rfl rfl (by omega)) ?_
  rw [show ((z : Nat) : Int) / 2 = ((y.toNat : Nat) : Int) by rw [hyz]; omega]
  refine asI rfl rfl <| zq <| x_region <| tLg rfl rfl rfl <| mvS rfl rfl <| mvI rfl rfl <| tl_y rfl (y_indexArrK 0 rfl rfl (by omega)) <| tLd rfl rfl rfl <| tl_y rfl (y_indexArrK 1 rfl rfl (by omega)) <| tLd rfl rfl rfl <| ec rfl rfl (inner_spec (hg.mono hd3) t (hname.mono hd3) y hA3 (by omega) (hb4.mono hd3) (by omega)) ?_
  rintro _ M5 _ hM5 ⟨rfl, A5, n5, c5, rfl, hA5⟩
  rw [hy] at hA5 ⊢
  refine asS rfl rfl <| tl_nil <| .block_normal <| .then_normal <| .s7 1 5 13 14 52 53 54 rfl rfl rfl rfl rfl rfl rfl <| x_region <| tl_y rfl (y_addI rfl rfl (by omega)) <| mvI rfl rfl <| .dropTo ((b1, .cells (List.toArray t.cells) 105 (0, 0)) :: L) ii <| tl_nil <| .loop_next (m' := wl - (k + 1)) (by omega) (F' := [(1, _), (5, _), (13, _), (14, _), (52, _), (53, _), (54, _)]) (cs7 rfl rfl rfl rfl rfl rfl rfl) ?_
  exact ⟨k + 1, A5, n5, c5, rfl, by omega, he.trans hM5, by rw [clX, ← hz, if_neg (by omega)]; exact hA5, rfl, rfl, rfl⟩
 obtain rfl : k = wl := by omega
 have hn3 := hA3.size
 have hn3' := clX_le t name way p (leafB_le t name q.toNat key) k
 refine x_exit <| .then_exit <| .loop_exit <| .block_exit <| .then_normal <| .s1 13 rfl <| zr <| mvS rfl rfl <| ec rfl rfl (bytesClone_spec hA3 (by omega)) ?_
 rintro _ M4 _ hM4 ⟨rfl, A4, c4, rfl, hA4⟩
 refine asS rfl rfl <| as0 rfl rfl <| zq <| x_ret (.dropTo L ii (ret2 rfl rfl rfl (hM1.trans (hM2.trans (he.trans hM4))) ⟨rfl, _, _, _, by rw [climbE, if_pos hokW], by
  rw [climbB, if_pos (by rw [hnl]; exact hokW), hH, Int.toNat_natCast, ← hp, show way.length = k by omega]
  exact hA4⟩))
end
theorem cPart_len {kind n : Int} (h : okC kind n) {name : List UInt8} (hn : name.length = 16) (q d : Nat) (text : List UInt8) : ((cPart kind n name q d text).length : Int) = n := by
 rw [cPart, if_pos hn, cSum, if_pos h, csum_length h _ (sha_length _)]
 rcases h.2 with h | h <;> subst h <;> rfl
theorem lvl_each {t : TreeV} (h : okC t.kind t.n) {name : List UInt8} (hn : name.length = 16) (keys : List (List UInt8)) : ∀ j, ∀ b ∈ lvl t name keys j, (b.length : Int) = t.n
 | 0, b, hb => by
  rw [lvl, leavesB, List.mem_map] at hb
  obtain ⟨q, _, rfl⟩ := hb
  exact cPart_len h hn _ _ _
 | j + 1, b, hb => by
  rw [lvl, nextB, List.mem_map] at hb
  obtain ⟨q, _, rfl⟩ := hb
  exact cPart_len h hn _ _ _
theorem lvl_getLen {t : TreeV} (h : okC t.kind t.n) {name : List UInt8} (hn : name.length = 16) {keys : List (List UInt8)} {H : Nat} (hk : keys.length = pw2 H) {j i : Nat} (hj : j ≤ H) (hi : i < pw2 (H - j)) : (((lvl t name keys j).getD i []).length : Int) = t.n :=
 lvl_each h hn keys j _ (getD_mem _ _ _ (by rw [lvl_len t name keys hk j hj]; exact hi))
theorem wayB_get (t : TreeV) (name : List UInt8) (keys : List (List UInt8)) (q : Nat) {k j : Nat} (h : j < k) : (wayB t name keys q k).getD j [] = (lvl t name keys j).getD (sib (q / pw2 j)) [] := by
 rw [List.getD_eq_getElem?_getD, wayB, List.getElem?_map, List.getElem?_range h]; rfl
theorem add_div_pw2 {H j q : Nat} (hj : j ≤ H) : (pw2 H + q) / pw2 j = pw2 (H - j) + q / pw2 j := by
 rw [pw2_mul hj, Nat.mul_add_div (pw2_pos j)]
theorem leads {t : TreeV} {H : Nat} (hH : t.h = (H : Int)) (name : List UInt8) {keys : List (List UInt8)} (hk : keys.length = pw2 H) {q : Nat} (hq : q < pw2 H) : ∀ j, j ≤ H →
  clX t name (wayB t name keys q H) (pw2 H + q) (leafB t name q (keys.getD q [])) j = (lvl t name keys j).getD (q / pw2 j) []
 | 0, _ => by
  rw [clX, lvl, show pw2 0 = 1 from rfl, Nat.div_one, leavesB_get _ _ _ (by omega)]
 | j + 1, hj => by
  have hlt : j < H := hj
  have hhf := (pw2_half hlt).2
  have hl := lvl_len t name keys hk j (by omega)
  have hz := div_lt (h := j + 1) hj hq
  rw [clX, leads hH name hk hq j (by omega), wayB_get _ _ _ _ hlt, lvl, nextB_get _ _ _ (by omega), add_div_pw2 (Nat.le_of_lt hlt), add_div_pw2 hj, hl, ← div_pw2]
  rw [← div_pw2] at hz
  generalize q / pw2 j = z at hz
  rw [show pw2 (H - j) / 2 = pw2 (H - (j + 1)) by omega]
  unfold sib
  by_cases hodd : z % 2 = 1
  ·
   rw [if_pos (by omega), if_pos hodd, show z - 1 = 2 * (z / 2) by omega]
   conv => lhs; rw [show z = 2 * (z / 2) + 1 by omega]
   congr 3 <;> omega
  rw [if_neg (by omega), if_neg hodd]
  conv => lhs; rw [show z = 2 * (z / 2) by omega]
  congr 3 <;> omega
theorem way_ok {t : TreeV} {nl : Nat} (hs : okS t nl) {name : List UInt8} (hn : name.length = 16) {keys : List (List UInt8)} {H : Nat} (hH : t.h = (H : Int)) (hk : keys.length = pw2 H) {q : Nat} (hq : q < pw2 H) : okW t nl q (wayB t name keys q H) := by
 obtain ⟨hokc, H', hH', _, _, hlv⟩ := okS_facts hs
 obtain rfl : H = H' := by omega
 refine ⟨hs, by rw [hlv]; exact hq, by rw [wayB_len]; exact hH.symm, fun b hb => ?_⟩
 rw [wayB, List.mem_map] at hb
 obtain ⟨j, hj, rfl⟩ := hb
 have hj' := List.mem_range.1 hj
 exact lvl_getLen hokc hn hk (Nat.le_of_lt hj') (sib_lt hj' hq)
theorem climb_root {t : TreeV} {nl : Nat} (hs : okS t nl) {name : List UInt8} (hn : name.length = nl) {keys : List (List UInt8)} {H : Nat} (hH : t.h = (H : Int)) (hk : keys.length = pw2 H) {q : Nat} (hq : q < pw2 H) : climbB t name q (keys.getD q []) (wayB t name keys q H) = rootB t name keys := by
 have h16 := hs.2.2
 rw [climbB, if_pos (by rw [hn]; exact way_ok hs (by omega) hH hk hq), hH, Int.toNat_natCast, wayB_len, leads hH name hk hq H (Nat.le_refl _), rootB, hH, Int.toNat_natCast, Nat.div_eq_of_lt hq]
theorem root_len {t : TreeV} {nl : Nat} (hs : okS t nl) {name : List UInt8} (hn : name.length = nl) {keys : List (List UInt8)} {H : Nat} (hH : t.h = (H : Int)) (hk : keys.length = pw2 H) : ((rootB t name keys).length : Int) = t.n := by
 have h16 := hs.2.2
 rw [rootB, hH, Int.toNat_natCast]
 exact lvl_getLen (okS_facts hs).1 (by omega) hk (Nat.le_refl _) (by rw [Nat.sub_self]; exact pw2_pos 0)
section
variable {G : World} {M : Mem} {L : Own}
end
abbrev pcells (o : OtsV) (t : TreeV) : List Value := [.int .u32 (o.code.toNat : Int), .int .i64 o.kind, .int .i64 o.n, .int .i64 o.w, .int .i64 o.p, .int .i64 o.shift, .int .u32 (t.code.toNat : Int), .int .i64 t.kind, .int .i64 t.n, .int .i64 t.h]
section
variable {G : World} {M : Mem} {L : Own}
def lwrongv (e : Int) : Value := .iface 248 (.agg #[.int .i64 e])
def lwrong (e : Int) : List PanicEntry := [{ v := lwrongv e, recovered := false }]
def hwrongv (e : Int) : Value := .iface 180 (.agg #[.int .i64 e])
def hwrong (e : Int) : List PanicEntry := [{ v := hwrongv e, recovered := false }]
theorem lmust_spec (t : Bool) (e : Int) :
  Con Tryz.prog 127 #[.bool t, .int .i64 e] G M L (fun v M' L' => M = M' ∧ L = L' ∧ t = true) (fun ch M' L' => M = M' ∧ L = L' ∧ t = false ∧ ch = lwrong e) := by
 refine en Tryz.func127 rfl 9 rfl <| zr <| mvB rfl rfl <| tl_y rfl (y_not rfl) <| zq <| x_condb rfl (fun hc1 => ?_) (fun hc1 => ?_)
 ·
  refine x_region <| mvI rfl rfl <| tl_y rfl (y_build rfl) <| tl_y rfl (y_makeIface rfl (by intro _ h; cases h)) <| tl_e rfl (e_panic rfl (.ret (Le.refl _) ⟨rfl, rfl, by simpa using hc1, rfl⟩))
 refine x_skip (end0 rfl (Le.refl _) ⟨rfl, rfl, by simpa using hc1⟩)
theorem hmust_spec (t : Bool) (e : Int) :
  Con Tryz.prog 49 #[.bool t, .int .i64 e] G M L (fun v M' L' => M = M' ∧ L = L' ∧ t = true) (fun ch M' L' => M = M' ∧ L = L' ∧ t = false ∧ ch = hwrong e) := by
 refine en Tryz.func49 rfl 9 rfl <| zr <| mvB rfl rfl <| tl_y rfl (y_not rfl) <| zq <| x_condb rfl (fun hc1 => ?_) (fun hc1 => ?_)
 ·
  refine x_region <| mvI rfl rfl <| tl_y rfl (y_build rfl) <| tl_y rfl (y_makeIface rfl (by intro _ h; cases h)) <| tl_e rfl (e_panic rfl (.ret (Le.refl _) ⟨rfl, rfl, by simpa using hc1, rfl⟩))
 refine x_skip (end0 rfl (Le.refl _) ⟨rfl, rfl, by simpa using hc1⟩)
theorem caughtP1_ret {b c : Nat} {x : Int} {cs : List Value} : ConD Tryz.prog 237 #[.pointer (some ⟨b, 0, none⟩), .pointer (some ⟨c, 0, none⟩)] .returning G M ((c, .cells #[.int .i64 x] 25 (0, 0)) :: (b, .cells cs.toArray 202 (0, 0)) :: L) (fun u' M' L' => u' = .returning ∧ M' = M ∧ L' = (c, .cells #[.int .i64 x] 25 (0, 0)) :: (b, .cells cs.toArray 202 (0, 0)) :: L) := by
 refine enterRec (args := [_, _]) (fn := Tryz.f237) ⟨Tryz.func237, rfl, by kernel_rfl, by kernel_rfl⟩ 15 rfl rfl <| x_block <| zr <| tl_y rfl (y_eqNilIface rfl rfl) <| zq <| x_true rfl (rfl) <| x_region <| as0 rfl rfl <| tl_nil (.block_normal (.rec_normal (Le.refl _) ⟨rfl, rfl, rfl⟩))
theorem caughtP1_wrong {b c : Nat} {x e : Int} : ConD Tryz.prog 237 #[.pointer (some ⟨b, 0, none⟩), .pointer (some ⟨c, 0, none⟩)] (.panicking (lwrong e)) G M ((c, .cells #[.int .i64 x] 25 (0, 0)) :: (b, .cells #[.int .u32 0, .int .i64 0, .int .i64 0, .int .i64 0, .int .i64 0, .int .i64 0, .int .u32 0, .int .i64 0, .int .i64 0, .int .i64 0] 202 (0, 0)) :: L)
  (fun u' M' L' => u' = .panicking [{ v := lwrongv e, recovered := true }] ∧ M' = M ∧ L' = (c, .cells #[.int .i64 e] 25 (0, 0)) :: (b, .cells #[.int .u32 0, .int .i64 0, .int .i64 0, .int .i64 0, .int .i64 0, .int .i64 0, .int .u32 0, .int .i64 0, .int .i64 0, .int .i64 0] 202 (0, 0)) :: L) := by
 refine enterRec (args := [_, _]) (fn := Tryz.f237) ⟨Tryz.func237, rfl, by kernel_rfl, by kernel_rfl⟩ 15 rfl rfl <| x_block <| zr <| tl_y rfl (y_eqIfaceNil rfl rfl) <| zq <| x_false rfl (rfl) <| zr <| tl_y rfl (y_assertOk rfl (by intro _ h; cases h)) <| zx rfl rfl <| zx rfl rfl <| zq <| x_true rfl (rfl) <| zr <| tl_e rfl <| e_alloc <| fun b7 => tl_e rfl <| e_st rfl rfl (by rfl) (by rfl) <| zq <| .s3 0 1 3 rfl rfl rfl <| zr <| tl_e rfl <| e_alloc <| fun b8 => zq <| x_draw0 4 ((b7, .cells #[.int .i64 e] 248 (0, 0)) :: (b8, .cells #[.int .u32 0, .int .i64 0, .int .i64 0, .int .i64 0, .int .i64 0, .int .i64 0, .int .u32 0, .int .i64 0, .int .i64 0, .int .i64 0] 202 (0, 0)) :: []) Keeps.mem hmix rfl ?_
 refine zy 0 rfl rfl (y_lg rfl rfl) <| zp 1 rfl rfl (y_fieldAddr rfl) <| zy 2 rfl rfl (y_ld rfl rfl) <| ze 3 rfl rfl <| e_st rfl rfl (by rfl) (by rfl) <| ⟨⟨(by first | exact Le.refl _ | assumption), Keeps.mem⟩, ?_⟩
 refine zt 4 rfl rfl <| e_st rfl rfl (by rfl) (by rfl) <| zz (.block_normal (.dropTo ((c, .cells #[.int .i64 e] 25 (0, 0)) :: (b, .cells #[.int .u32 0, .int .i64 0, .int .i64 0, .int .i64 0, .int .i64 0, .int .i64 0, .int .u32 0, .int .i64 0, .int .i64 0, .int .i64 0] 202 (0, 0)) :: L) ii (.rec_normal (Le.refl _) ⟨rfl, rfl, rfl⟩)))
theorem caughtP_spec {wf : FuncId} {first cap : List Value} {K : OtsV → TreeV → Mem → Prop} {Kp : Int → Prop}
  (hw : ∀ p q, Con Tryz.prog wf (first ++ [] ++ cap).toArray G M (p :: q :: L) (fun v M' L' => L' = p :: q :: L ∧ ∃ (o : OtsV) (t : TreeV), v = .agg (List.toArray (pcells o t)) ∧ K o t M') (fun ch M' L' => L' = p :: q :: L ∧ ∃ e, Kp e ∧ ch = lwrong e)) :
  Con Tryz.prog 185 #[.func (.func wf) first.toArray cap.toArray] G M L (fun v M' L' => L' = L ∧ ((∃ (o : OtsV) (t : TreeV), v = .tuple #[.agg (List.toArray (pcells o t)), .int .i64 0] ∧ K o t M') ∨ (∃ e, v = .tuple #[.agg #[.int .u32 0, .int .i64 0, .int .i64 0, .int .i64 0, .int .i64 0, .int .i64 0, .int .u32 0, .int .i64 0, .int .i64 0, .int .i64 0], .int .i64 e] ∧ Kp e))) noPanic := by
 refine enterD (args := [_]) (fn := Tryz.f185) ⟨Tryz.func185, rfl, by kernel_rfl, by kernel_rfl⟩ 7 rfl <| zr <| tl_e rfl <| e_alloc <| fun b1 => tl_e rfl <| e_alloc <| fun b2 => zq <| zr <| tl_y rfl (y_makeFunc rfl rfl) <| tl_e rfl <| e_defer rfl rfl rfl <| zq <| zr <| mvF rfl rfl <| tl_e rfl (e_callv rfl rfl (hw _ _) (by
  rintro _ M1 _ hM1 ⟨rfl, e, hr, rfl⟩
  refine .retD (cap := [_, _]) (args := []) caughtP1_wrong ?_
  rintro _ M2 _ hM2 ⟨rfl, rfl, rfl⟩
  exact .inl ⟨rfl, _, L, rv2 rfl (rc_cellAgg (by rfl) rfl (.own ii ii)) (rc_cell (by rfl) rfl (.own ii ii)), ii, hM1, rfl, .inr ⟨e, rfl, hr⟩⟩) ?_)
 rintro _ M1 _ hM1 ⟨rfl, o, t, rfl, hk⟩
 refine tl_e rfl <| e_st rfl rfl (by rfl) (by rfl) <| tl_e rfl <| e_st rfl rfl (by rfl) (by rfl) <| zq <| .s2 2 3 rfl rfl <| x_ret <| .retD (cap := [_, _]) (args := []) (caughtP1_ret (cs := pcells o t)) ?_
 rintro _ M2 _ hM2 ⟨rfl, rfl, rfl⟩
 exact .inl ⟨rfl, _, L, rv2 rfl (rc_cellAgg (by rfl) rfl (.own ii ii)) (rc_cell (by rfl) rfl (.own ii ii)), ii, hM1, rfl, .inl ⟨o, t, rfl, hk⟩⟩
theorem caughtU1_ret {b c : Nat} {x : Int} {cs : List Value} : ConD Tryz.prog 136 #[.pointer (some ⟨b, 0, none⟩), .pointer (some ⟨c, 0, none⟩)] .returning G M ((c, .cells #[.int .i64 x] 25 (0, 0)) :: (b, .cells cs.toArray 38 (0, 0)) :: L) (fun u' M' L' => u' = .returning ∧ M' = M ∧ L' = (c, .cells #[.int .i64 x] 25 (0, 0)) :: (b, .cells cs.toArray 38 (0, 0)) :: L) := by
 refine enterRec (args := [_, _]) (fn := Tryz.f136) ⟨Tryz.func136, rfl, by kernel_rfl, by kernel_rfl⟩ 15 rfl rfl <| x_block <| zr <| tl_y rfl (y_eqNilIface rfl rfl) <| zq <| x_true rfl (rfl) <| x_region <| as0 rfl rfl <| tl_nil (.block_normal (.rec_normal (Le.refl _) ⟨rfl, rfl, rfl⟩))
theorem caughtU1_wrong {b c : Nat} {x e : Int} : ConD Tryz.prog 136 #[.pointer (some ⟨b, 0, none⟩), .pointer (some ⟨c, 0, none⟩)] (.panicking (hwrong e)) G M ((c, .cells #[.int .i64 x] 25 (0, 0)) :: (b, .cells #[.int .u64 0] 38 (0, 0)) :: L)
  (fun u' M' L' => u' = .panicking [{ v := hwrongv e, recovered := true }] ∧ M' = M ∧ L' = (c, .cells #[.int .i64 e] 25 (0, 0)) :: (b, .cells #[.int .u64 0] 38 (0, 0)) :: L) := by
 refine enterRec (args := [_, _]) (fn := Tryz.f136) ⟨Tryz.func136, rfl, by kernel_rfl, by kernel_rfl⟩ 15 rfl rfl <| x_block <| zr <| tl_y rfl (y_eqIfaceNil rfl rfl) <| zq <| x_false rfl (rfl) <| zr <| tl_y rfl (y_assertOk rfl (by intro _ h; cases h)) <| zx rfl rfl <| zx rfl rfl <| zq <| x_true rfl (rfl) <| zr <| tl_e rfl <| e_alloc <| fun b7 => tl_e rfl <| e_st rfl rfl (by rfl) (by rfl) <| zq <| .s3 0 1 3 rfl rfl rfl <| zr <| as0 rfl rfl <| zq <| x_draw0 4 ((b7, .cells #[.int .i64 e] 180 (0, 0)) :: []) Keeps.mem hmix rfl ?_
 refine zp 0 rfl rfl (y_move (v := .int _ _) rfl) <| zp 1 rfl rfl (y_fieldAddr rfl) <| zy 2 rfl rfl (y_ld rfl rfl) <| ze 3 rfl rfl <| e_st rfl rfl (by rfl) (by rfl) <| ⟨⟨(by first | exact Le.refl _ | assumption), Keeps.mem⟩, ?_⟩
 refine zt 4 rfl rfl <| e_st rfl rfl (by rfl) (by rfl) <| zz (.block_normal (.dropTo ((c, .cells #[.int .i64 e] 25 (0, 0)) :: (b, .cells #[.int .u64 0] 38 (0, 0)) :: L) ii (.rec_normal (Le.refl _) ⟨rfl, rfl, rfl⟩)))
theorem caughtU_spec {wf : FuncId} {first cap : List Value} {K : Int → Mem → Prop} {Kp : Int → Prop}
  (hw : ∀ p q, Con Tryz.prog wf (first ++ [] ++ cap).toArray G M (p :: q :: L) (fun v M' L' => L' = p :: q :: L ∧ ∃ x : Int, v = .int .u64 x ∧ K x M') (fun ch M' L' => L' = p :: q :: L ∧ ∃ e, Kp e ∧ ch = hwrong e)) :
  Con Tryz.prog 88 #[.func (.func wf) first.toArray cap.toArray] G M L (fun v M' L' => L' = L ∧ ((∃ x : Int, v = .tuple #[.int .u64 x, .int .i64 0] ∧ K x M') ∨ (∃ e, v = .tuple #[.int .u64 0, .int .i64 e] ∧ Kp e))) noPanic := by
 refine enterD (args := [_]) (fn := Tryz.f88) ⟨Tryz.func88, rfl, by kernel_rfl, by kernel_rfl⟩ 7 rfl <| zr <| tl_e rfl <| e_alloc <| fun b1 => tl_e rfl <| e_alloc <| fun b2 => zq <| zr <| tl_y rfl (y_makeFunc rfl rfl) <| tl_e rfl <| e_defer rfl rfl rfl <| zq <| zr <| mvF rfl rfl <| tl_e rfl (e_callv rfl rfl (hw _ _) (by
  rintro _ M1 _ hM1 ⟨rfl, e, hr, rfl⟩
  refine .retD (cap := [_, _]) (args := []) caughtU1_wrong ?_
  rintro _ M2 _ hM2 ⟨rfl, rfl, rfl⟩
  exact .inl ⟨rfl, _, L, rv2 rfl (rc_cell (by rfl) rfl (.own ii ii)) (rc_cell (by rfl) rfl (.own ii ii)), ii, hM1, rfl, .inr ⟨e, rfl, hr⟩⟩) ?_)
 rintro _ M1 _ hM1 ⟨rfl, x, rfl, hk⟩
 refine tl_e rfl <| e_st rfl rfl (by rfl) (by rfl) <| tl_e rfl <| e_st rfl rfl (by rfl) (by rfl) <| zq <| .s2 2 3 rfl rfl <| x_ret <| .retD (cap := [_, _]) (args := []) (caughtU1_ret (cs := [.int .u64 x])) ?_
 rintro _ M2 _ hM2 ⟨rfl, rfl, rfl⟩
 exact .inl ⟨rfl, _, L, rv2 rfl (rc_cell (by rfl) rfl (.own ii ii)) (rc_cell (by rfl) rfl (.own ii ii)), ii, hM1, rfl, .inl ⟨x, rfl, hk⟩⟩
end
structure PairV where
 o : UInt32
 t : UInt32
deriving DecidableEq
abbrev PairV.cells (p : PairV) : List Value := [.int .u32 (p.o.toNat : Int), .int .u32 (p.t.toNat : Int)]
def okP (p : PairV) : Prop := otsE p.o = 0 ∧ treeE p.t = 0 ∧ (otsV p.o).kind = (treeV p.t).kind ∧ (otsV p.o).n = (treeV p.t).n
instance {p : PairV} : Decidable (okP p) := inferInstanceAs (Decidable (_ ∧ _))
structure HsG (M : Mem) : Prop where
 o : SetG M
 t : SetT M
theorem HsG.mono {M M' : Mem} (h : HsG M) (hle : Le M M') : HsG M' := ⟨h.o.mono hle, h.t.mono hle⟩
section
variable {G : World} {M : Mem} {L : Own}
theorem Fit_spec (o : OtsV) (t : TreeV) :
  Con Tryz.prog 169 #[.agg (List.toArray o.cells), .agg (List.toArray t.cells)] G M L (fun v M' L' => M = M' ∧ L = L' ∧ v = .bool (decide (o.kind = t.kind ∧ o.n = t.n))) noPanic := by
 refine en Tryz.func169 rfl 17 rfl <| zr <| tl_e rfl <| e_box rfl <| fun b1 => tl_e rfl <| e_box rfl <| fun b2 => as0 rfl rfl <| zq <| zr <| tFa rfl rfl <| tLd rfl rfl rfl <| tFa rfl rfl <| tLd rfl rfl rfl <| tl_y rfl (y_eql rfl rfl) <| mvB rfl rfl <| tl_cases (s := 10) rfl (fun hk1 => ?_) (fun hk1 => ?_)
 ·
  refine tFa rfl rfl <| tLd rfl rfl rfl <| tFa rfl rfl <| tLd rfl rfl rfl <| tl_y rfl (y_eql rfl rfl) <| tPt rfl rfl rfl <| asB rfl rfl <| zq <| .s1 4 rfl <| x_ret (.dropTo L ii (ret1 rfl rfl (Le.refl _) ⟨rfl, rfl, by simp [hk1]⟩))
 refine tl_skip rfl <| tl_skip rfl <| tl_skip rfl <| tl_skip rfl <| tl_skip rfl <| tPf rfl rfl rfl <| asB rfl rfl <| zq <| .s1 4 rfl <| x_ret (.dropTo L ii (ret1 rfl rfl (Le.refl _) ⟨rfl, rfl, by simp [hk1]⟩))
theorem of_spec (hg : HsG M) (p : PairV) :
  Con Tryz.prog 128 #[.agg (List.toArray p.cells)] G M L (fun v M' L' => L' = L ∧ okP p ∧ v = .agg (List.toArray (pcells (otsV p.o) (treeV p.t)))) (fun ch M' L' => L' = L ∧ ¬ okP p ∧ ch = lwrong 4) := by
 refine en Tryz.func128 rfl 34 rfl <| zr <| tl_e rfl <| e_box rfl <| fun b1 => tl_e rfl <| e_alloc <| fun b2 => zq <| zr <| tFa rfl rfl <| tLd rfl rfl rfl <| ec rfl rfl (Ots_spec hg.o p.o) ?_
 rintro _ M1 _ hM1 ⟨rfl, rfl⟩
 refine mvU rfl rfl <| zx rfl rfl <| zx rfl rfl <| tl_e rfl <| e_alloc <| fun b3 => tl_e rfl <| e_st rfl rfl (by rfl) (by rfl) <| asI rfl rfl <| zq <| .s4 1 2 3 4 rfl rfl rfl rfl <| zr <| tFa rfl rfl <| tLd rfl rfl rfl <| ec rfl rfl (Tree_spec (hg.mono hM1).t p.t) ?_
 rintro _ M2 _ hM2 ⟨rfl, rfl⟩
 have hm := hM1.trans hM2
 refine mvU rfl rfl <| zx rfl rfl <| zx rfl rfl <| tl_e rfl <| e_alloc <| fun b4 => tl_e rfl <| e_st rfl rfl (by rfl) (by rfl) <| asI rfl rfl <| zq <| .s5 2 3 4 5 6 rfl rfl rfl rfl rfl <| zr <| mvI rfl rfl <| tl_y rfl (y_eql rfl rfl) <| mvB rfl rfl <| tl_cases (s := 21) rfl (fun hk1 => ?_) (fun hk1 => ?_)
 ·
  refine mvI rfl rfl <| tl_y rfl (y_eql rfl rfl) <| tPt rfl rfl rfl <| mvB rfl rfl <| tl_cases (s := 25) rfl (fun hk2 => ?_) (fun hk2 => ?_)
  ·
   refine tLg rfl rfl rfl <| tLg rfl rfl rfl <| ec rfl rfl (Fit_spec _ _) ?_
   rintro _ _ _ _ ⟨rfl, rfl, rfl⟩
   refine tPt rfl rfl rfl <| tl_e rfl (e_call rfl (lmust_spec _ _) (by
    rintro _ _ _ _ ⟨rfl, rfl, ht, rfl⟩
    exact TP.dropTo L ii (.retA rfl hm ⟨rfl, fun h => by have := h.2.2; simp [this] at ht, rfl⟩)) ?_)
   rintro _ _ _ _ ⟨rfl, rfl, ht⟩
   refine zq <| .s3 2 3 5 rfl rfl rfl <| zr <| tLg rfl rfl rfl <| tLg rfl rfl rfl <| tl_y rfl (y_build rfl) <| tl_e rfl <| e_st rfl rfl (by rfl) (by rfl) <| zq <| .s1 2 rfl <| x_ret (retRV (L' := L) (rv1 rfl (rc_cellAgg (by rfl) rfl (.own ii ii))) ii hm ⟨rfl, ⟨hk1, hk2, by simpa using ht⟩, rfl⟩)
  refine tl_skip rfl <| tl_skip rfl <| tl_skip rfl <| tPf rfl rfl rfl <| tl_e rfl (e_call rfl (lmust_spec _ _) (by
   rintro _ _ _ _ ⟨rfl, rfl, ht, rfl⟩
   exact TP.dropTo L ii (.retA rfl hm ⟨rfl, fun h => hk2 h.2.1, rfl⟩)) ?_)
  rintro _ _ _ _ ⟨rfl, rfl, ht⟩
  refine zq <| .s3 2 3 5 rfl rfl rfl <| zr <| tLg rfl rfl rfl <| tLg rfl rfl rfl <| tl_y rfl (y_build rfl) <| tl_e rfl <| e_st rfl rfl (by rfl) (by rfl) <| zq <| .s1 2 rfl <| x_ret (absurd ht (by simp))
 refine tl_skip rfl <| tl_skip rfl <| tPf rfl rfl rfl <| mvB rfl rfl <| tl_skip rfl <| tl_skip rfl <| tl_skip rfl <| tPf rfl rfl rfl <| tl_e rfl (e_call rfl (lmust_spec _ _) (by
  rintro _ _ _ _ ⟨rfl, rfl, ht, rfl⟩
  exact TP.dropTo L ii (.retA rfl hm ⟨rfl, fun h => hk1 h.1, rfl⟩)) ?_)
 rintro _ _ _ _ ⟨rfl, rfl, ht⟩
 refine zq <| .s3 2 3 5 rfl rfl rfl <| zr <| tLg rfl rfl rfl <| tLg rfl rfl rfl <| tl_y rfl (y_build rfl) <| tl_e rfl <| e_st rfl rfl (by rfl) (by rfl) <| zq <| .s1 2 rfl <| x_ret (absurd ht (by simp))
theorem May1_spec (hg : HsG M) (p : PairV) {b : Nat} [hb : Has L b (.cells (List.toArray p.cells) 63 (0, 0))] :
  Con Tryz.prog 186 #[.pointer (some ⟨b, 0, none⟩)] G M L (fun v M' L' => L' = L ∧ ∃ (o : OtsV) (t : TreeV), v = .agg (List.toArray (pcells o t)) ∧ okP p) (fun ch M' L' => L' = L ∧ ∃ e, (¬ okP p ∧ e = 4) ∧ ch = lwrong e) := by
 refine en Tryz.func186 rfl 4 rfl <| zr <| tl_e rfl <| e_alloc <| fun b1 => zq <| zr <| tLg rfl rfl rfl <| tl_e rfl (e_call rfl (of_spec hg p) (by
  rintro _ M1 _ hM1 ⟨rfl, hno, rfl⟩
  exact TP.dropTo L ii (.retA rfl hM1 ⟨rfl, 4, ⟨hno, rfl⟩, rfl⟩)) ?_)
 rintro _ M1 _ hM1 ⟨rfl, hok, rfl⟩
 refine tl_e rfl <| e_st rfl rfl (by rfl) (by rfl) <| zq <| x_ret (retRV (L' := L) (rv1 rfl (rc_cellAgg (by rfl) rfl (.own ii ii))) ii hM1 ⟨rfl, _, _, rfl, hok⟩)
theorem lMay_spec (hg : HsG M) (p : PairV) :
  Con Tryz.prog 137 #[.agg (List.toArray p.cells)] G M L (fun v M' L' => L' = L ∧ v = .bool (decide (okP p))) noPanic := by
 refine en Tryz.func137 rfl 12 rfl <| zr <| tl_e rfl <| e_box rfl <| fun b1 => as0 rfl rfl <| zq <| zr <| tl_y rfl (y_makeFunc rfl rfl) <| ec rfl rfl (caughtP_spec (K := fun _ _ _ => okP p) (Kp := fun e => ¬ okP p ∧ e = 4) (first := []) (cap := [.pointer (some ⟨b1, 0, none⟩)]) (fun p' q' => May1_spec hg p)) ?_
 rintro v M1 _ hM1 ⟨rfl, hv⟩
 obtain ⟨o, t, e, rfl, he⟩ : ∃ (o : OtsV) (t : TreeV) (e : Int), v = .tuple #[.agg (List.toArray (pcells o t)), .int .i64 e] ∧ (e = 0 ↔ okP p) := by
  rcases hv with ⟨o, t, rfl, hok⟩ | ⟨e, rfl, hno, rfl⟩
  ·
   exact ⟨o, t, 0, rfl, iff_of_true rfl hok⟩
  exact ⟨ots0, tree0, 4, rfl, iff_of_false (by decide) hno⟩
 refine mvU rfl rfl <| zx rfl rfl <| zx rfl rfl <| tl_e rfl <| e_alloc <| fun b2 => tl_e rfl <| e_st rfl rfl (by rfl) (by rfl) <| asI rfl rfl <| zq <| .s1 4 rfl <| zr <| mvI rfl rfl <| tl_y rfl (y_eql rfl rfl) <| asB rfl rfl <| zq <| x_ret (.dropTo L ii (ret1 rfl rfl hM1 ⟨rfl, by rw [decide_eq_decide.2 he]⟩))
end
theorem treeV_code {c : UInt32} (h : treeE c = 0) : (treeV c).code = c := by
 obtain ⟨x, h1, h2⟩ := treeE_some h
 rw [h2]
 unfold treeOf at h1
 split at h1
 ·
  obtain rfl := Option.some.inj h1; rfl
 split at h1
 ·
  obtain rfl := Option.some.inj h1; rfl
 cases h1
abbrev PairV.T (x : PairV) : TreeV := treeV x.t
structure PF (x : PairV) (n w p H : Nat) : Prop where
 ok : okP x
 o : OF (otsV x.o) n w p
 tn : (treeV x.t).n = (n : Int)
 th : (treeV x.t).h = (H : Int)
 h1 : 1 ≤ H
 h2 : H ≤ 25
 tc : (treeV x.t).code = x.t
 oc : (otsV x.o).code = x.o
 s : okS (treeV x.t) 16
 lv : leavesN (treeV x.t).h = pw2 H
theorem okP_facts {x : PairV} (h : okP x) : ∃ n w p H, PF x n w p H := by
 obtain ⟨hc, ho⟩ := otsV_code h.1
 obtain ⟨n, w, p, hof⟩ := okO_facts ho
 have htc := treeV_code h.2.1
 have hs : okS (treeV x.t) 16 := ⟨by rw [htc]; exact h.2.1, by rw [htc], rfl⟩
 obtain ⟨_, H, hH, h1, h2, hlv⟩ := okS_facts hs
 exact ⟨n, w, p, H, h, hof, by rw [← h.2.2.2, hof.hn], hH, h1, h2, htc, hc, hs, hlv⟩
def keysB (x : PairV) (name sec : List UInt8) (k : Nat) : List (List UInt8) := (List.range k).map fun q => keyB (otsV x.o) name sec q
theorem keysB_len (x : PairV) (name sec : List UInt8) (k : Nat) : (keysB x name sec k).length = k := by simp [keysB]
theorem keysB_get (x : PairV) (name sec : List UInt8) {k q : Nat} (h : q < k) : (keysB x name sec k).getD q [] = keyB (otsV x.o) name sec q := by
 rw [List.getD_eq_getElem?_getD, keysB, List.getElem?_map, List.getElem?_range h]; rfl
theorem keyB_le (o : OtsV) (name sec : List UInt8) (q : Nat) : (keyB o name sec q).length ≤ 32 := cPartO_le _ _ _ _ _ _
theorem keysB_le (x : PairV) (name sec : List UInt8) (k : Nat) : ∀ b ∈ keysB x name sec k, b.length ≤ 1000000000000 := by
 intro b hb
 rw [keysB, List.mem_map] at hb
 obtain ⟨q, _, rfl⟩ := hb
 have := keyB_le (otsV x.o) name sec q
 omega
def mayC (x : PairV) (nl sl : Nat) : Int := if ¬ okP x then 4 else if 10 < (treeV x.t).h ∨ ¬ okY (otsV x.o) nl sl then 1 else 0
theorem mayC_zero {x : PairV} {nl sl : Nat} (h : mayC x nl sl = 0) : okP x ∧ (treeV x.t).h ≤ 10 ∧ okY (otsV x.o) nl sl := by
 unfold mayC at h
 split at h
 ·
  cases h
 rename_i h1
 split at h
 ·
  cases h
 rename_i h2
 exact ⟨Classical.not_not.1 h1, by omega, Classical.not_not.1 (fun h3 => h2 (.inr h3))⟩
theorem mayC_ok {x : PairV} {nl sl : Nat} (h1 : okP x) (h2 : (treeV x.t).h ≤ 10) (h3 : okY (otsV x.o) nl sl) : mayC x nl sl = 0 := by
 rw [mayC, if_neg (fun h => h h1), if_neg (by rintro (h | h); omega; exact h h3)]
def keysX (x : PairV) (name sec : List UInt8) : List (List UInt8) := keysB x name sec (leavesN (treeV x.t).h)
def pubB (x : PairV) (name sec : List UInt8) : List UInt8 := putB x.t.toNat 4 ++ (putB x.o.toNat 4 ++ (name ++ rootB (treeV x.t) name (keysX x name sec)))
def pubV (x : PairV) (nl sl : Nat) (name sec : List UInt8) : List UInt8 := if mayC x nl sl = 0 then pubB x name sec else []
def lsigE (x : PairV) (nl sl q tl : Nat) : Int := if mayC x nl sl ≠ 0 then mayC x nl sl else if 65536 < tl then 1 else if leavesN (treeV x.t).h ≤ q then 9 else 0
def lsigB (x : PairV) (name sec : List UInt8) (q : Nat) (text : List UInt8) : List UInt8 :=
 putB q 4 ++ (sigB (otsV x.o) name sec q text ++ (putB x.t.toNat 4 ++ (wayB (treeV x.t) name (keysX x name sec) q (treeV x.t).h.toNat).flatten))
def lsigV (x : PairV) (nl sl : Nat) (name sec : List UInt8) (q tl : Nat) (text : List UInt8) : List UInt8 := if lsigE x nl sl q tl = 0 then lsigB x name sec q text else []
def pubN (x : PairV) : Nat := 24 + (treeV x.t).n.toNat
def sigN (x : PairV) : Nat := 8 + sizeN (otsV x.o) + (treeV x.t).n.toNat * (treeV x.t).h.toNat
def szP (x : PairV) : Nat := if okP x then pubN x else 0
def szS (x : PairV) : Nat := if okP x then sigN x else 0
theorem PF.sizes {x : PairV} {n w p H : Nat} (h : PF x n w p H) : pubN x = 24 + n ∧ sigN x = 8 + sizeN (otsV x.o) + n * H ∧ n * H ≤ 32 * 25 ∧ sizeN (otsV x.o) ≤ 4 + 32 * 265 + 32 ∧ 4 ≤ sizeN (otsV x.o) := by
 obtain ⟨h1, h2, h3⟩ := h.o.size
 have hn := h.o.n32
 refine ⟨by rw [pubN, h.tn]; rfl, by rw [sigN, h.tn, h.th]; rfl, Nat.mul_le_mul hn.2 h.h2, ?_, ?_⟩ <;> omega
def pairC (bs : List UInt8) : PairV := ⟨UInt32.ofNat (getB ((bs.drop 4).take 4)), UInt32.ofNat (getB (bs.take 4))⟩
def pairE (bs : List UInt8) : Int := if bs.length < 8 then 2 else if ¬ okP (pairC bs) then 4 else if bs.length ≠ pubN (pairC bs) then 5 else 0
def pairZ : PairV := ⟨0, 0⟩
def pairX (bs : List UInt8) : PairV := if pairE bs = 0 then pairC bs else pairZ
theorem pairE_zero {bs : List UInt8} (h : pairE bs = 0) : 8 ≤ bs.length ∧ okP (pairC bs) ∧ bs.length = pubN (pairC bs) := by
 unfold pairE at h
 split at h
 ·
  cases h
 split at h
 ·
  cases h
 split at h
 ·
  cases h
 rename_i h1 h2 h3
 exact ⟨by omega, Classical.not_not.1 h2, Classical.not_not.1 h3⟩
def takeE (x : PairV) (bl : Nat) : Int := if ¬ okP x then 4 else if bl < sigN x then 2 else 0
def wayS (sig : List UInt8) (at_ n H : Nat) : List (List UInt8) := (List.range H).map fun i => (sig.drop (at_ + i * n)).take n
theorem wayS_succ (sig : List UInt8) (at_ n H : Nat) : wayS sig at_ n (H + 1) = wayS sig at_ n H ++ [(sig.drop (at_ + H * n)).take n] := by
 rw [wayS, List.range_succ, List.map_append]; rfl
def fitKey (x : PairV) (tl : Nat) (name text sig : List UInt8) : List UInt8 := staV 16 tl name (getB (sig.take 4)) text ((sig.drop 4).take (sizeN (otsV x.o)))
def fitWay (x : PairV) (sig : List UInt8) : List (List UInt8) := wayS sig (8 + sizeN (otsV x.o)) (treeV x.t).n.toNat (treeV x.t).h.toNat
def fitL (x : PairV) (tl : Nat) (name text sig : List UInt8) : Prop :=
 sig.length = sigN x ∧ (sig.drop 4).take 4 = putB x.o.toNat 4 ∧ (sig.drop (4 + sizeN (otsV x.o))).take 4 = putB x.t.toNat 4 ∧
  staE 16 tl ((sig.drop 4).take (sizeN (otsV x.o))) = 0 ∧ climbE (treeV x.t) 16 (getB (sig.take 4)) (fitWay x sig) = 0
instance {x : PairV} {tl : Nat} {name text sig : List UInt8} : Decidable (fitL x tl name text sig) := inferInstanceAs (Decidable (_ ∧ _))
def fitR (x : PairV) (tl : Nat) (name text sig : List UInt8) : List UInt8 := climbB (treeV x.t) name (getB (sig.take 4)) (fitKey x tl name text sig) (fitWay x sig)
def nameP (pub : List UInt8) : List UInt8 := (pub.drop 8).take 16
def fitK (pub : List UInt8) (tl : Nat) (text sig : List UInt8) : Prop :=
 pairE pub = 0 ∧ fitL (pairC pub) tl (nameP pub) text sig ∧ fitR (pairC pub) tl (nameP pub) text sig = pub.drop 24
instance {pub : List UInt8} {tl : Nat} {text sig : List UInt8} : Decidable (fitK pub tl text sig) := inferInstanceAs (Decidable (_ ∧ _))
theorem putB_get4 {bs : List UInt8} (h : bs.length = 4) : putB (UInt32.ofNat (getB bs)).toNat 4 = bs := by
 have := getB_lt bs
 rw [h] at this
 have h2 := put_get bs
 rw [h] at h2
 rw [UInt32.toNat_ofNat', Nat.mod_eq_of_lt (by omega), h2]
theorem keysX_len {x : PairV} {n w p H : Nat} (hx : PF x n w p H) (name sec : List UInt8) : (keysX x name sec).length = pw2 H := by rw [keysX, keysB_len, hx.lv]
theorem keysX_get {x : PairV} {n w p H : Nat} (hx : PF x n w p H) (name sec : List UInt8) {q : Nat} (hq : q < pw2 H) : (keysX x name sec).getD q [] = keyB (otsV x.o) name sec q := keysB_get x name sec (by rw [hx.lv]; exact hq)
theorem way_flat (t : TreeV) (name : List UInt8) (keys : List (List UInt8)) (q k : Nat) : (wayB t name keys q k).flatten = catR (fun h => (lvl t name keys h).getD (sib (q / pw2 h)) []) k := rfl
theorem way_each {x : PairV} {n w p H : Nat} (hx : PF x n w p H) {name : List UInt8} (hn : name.length = 16) (sec : List UInt8) {q : Nat} (hq : q < pw2 H) : ∀ h, h < H → ((lvl (treeV x.t) name (keysX x name sec) h).getD (sib (q / pw2 h)) []).length = n := by
 intro h hh
 have h1 := lvl_getLen (okS_facts hx.s).1 hn (keysX_len hx name sec) (j := h) (by omega) (sib_lt hh hq)
 rw [hx.tn] at h1
 omega
theorem lsig_parts {x : PairV} {n w p H : Nat} (hx : PF x n w p H) {name : List UInt8} (hn : name.length = 16) (sec : List UInt8) {q : Nat} (text : List UInt8) (hq : q < pw2 H) :
  (lsigB x name sec q text).length = sigN x ∧ (lsigB x name sec q text).take 4 = putB q 4 ∧ ((lsigB x name sec q text).drop 4).take (sizeN (otsV x.o)) = sigB (otsV x.o) name sec q text ∧
   ((lsigB x name sec q text).drop (4 + sizeN (otsV x.o))).take 4 = putB x.t.toNat 4 ∧ fitWay x (lsigB x name sec q text) = wayB (treeV x.t) name (keysX x name sec) q H := by
 obtain ⟨z1, z2, z3, z4, z5⟩ := hx.sizes
 obtain ⟨s1, _, _, _⟩ := sig_parts hx.o hn sec q text
 have hHn : (treeV x.t).h.toNat = H := by rw [hx.th]; rfl
 have hnn : (treeV x.t).n.toNat = n := by rw [hx.tn]; rfl
 have p1 : (putB q 4).length = 4 := putB_length 4 _
 have p2 : (putB x.t.toNat 4).length = 4 := putB_length 4 _
 have hrow := way_each hx hn sec hq
 have hw : (wayB (treeV x.t) name (keysX x name sec) q H).flatten.length = H * n := by rw [way_flat]; exact catR_len H hrow
 have e : lsigB x name sec q text = putB q 4 ++ (sigB (otsV x.o) name sec q text ++ (putB x.t.toNat 4 ++ (wayB (treeV x.t) name (keysX x name sec) q H).flatten)) := by rw [lsigB, hHn]
 have d1 : (lsigB x name sec q text).drop 4 = sigB (otsV x.o) name sec q text ++ (putB x.t.toNat 4 ++ (wayB (treeV x.t) name (keysX x name sec) q H).flatten) := by rw [e]; exact drop_at p1
 have d2 : (lsigB x name sec q text).drop (4 + sizeN (otsV x.o)) = putB x.t.toNat 4 ++ (wayB (treeV x.t) name (keysX x name sec) q H).flatten := by rw [← List.drop_drop, d1]; exact drop_at s1
 have d3 : (lsigB x name sec q text).drop (8 + sizeN (otsV x.o)) = (wayB (treeV x.t) name (keysX x name sec) q H).flatten := by
  rw [show 8 + sizeN (otsV x.o) = (4 + sizeN (otsV x.o)) + 4 by omega, ← List.drop_drop, d2]; exact drop_at p2
 refine ⟨?_, ?_, ?_, ?_, ?_⟩
 ·
  rw [e, List.length_append, List.length_append, List.length_append, p1, p2, s1, hw, z2, Nat.mul_comm H n]; omega
 ·
  rw [e]; exact take_at p1
 ·
  rw [d1]; exact take_at s1
 ·
  rw [d2]; exact take_at p2
 rw [fitWay, wayS, hHn, hnn, wayB]
 refine List.map_congr_left <| fun i hi => ?_
 rw [← List.drop_drop, d3, way_flat]
 exact catR_row hrow (List.mem_range.1 hi)
theorem pub_parts {x : PairV} {n w p H : Nat} (hx : PF x n w p H) {name : List UInt8} (hn : name.length = 16) (sec : List UInt8) :
  (pubB x name sec).length = 24 + n ∧ pairC (pubB x name sec) = x ∧ (pubB x name sec).take 8 = putB x.t.toNat 4 ++ putB x.o.toNat 4 ∧ nameP (pubB x name sec) = name ∧ (pubB x name sec).drop 24 = rootB (treeV x.t) name (keysX x name sec) := by
 have p1 : (putB x.t.toNat 4).length = 4 := putB_length 4 _
 have p2 : (putB x.o.toNat 4).length = 4 := putB_length 4 _
 have hr := root_len hx.s hn hx.th (keysX_len hx name sec)
 rw [hx.tn] at hr
 have d1 : (pubB x name sec).drop 4 = putB x.o.toNat 4 ++ (name ++ rootB (treeV x.t) name (keysX x name sec)) := drop_at p1
 have d2 : (pubB x name sec).drop 8 = name ++ rootB (treeV x.t) name (keysX x name sec) := by
  rw [show 8 = 4 + 4 from rfl, ← List.drop_drop, d1]; exact drop_at p2
 have h1 := x.o.toNat_lt
 have h2 := x.t.toNat_lt
 refine ⟨?_, ?_, ?_, ?_, ?_⟩
 ·
  rw [pubB, List.length_append, List.length_append, List.length_append, p1, p2, hn]; omega
 ·
  rw [pairC, d1, take_at p2, show (pubB x name sec).take 4 = putB x.t.toNat 4 from take_at p1, getB_put, getB_put, Nat.mod_eq_of_lt (by omega), Nat.mod_eq_of_lt (by omega)]
  rw [UInt32.ofNat_toNat, UInt32.ofNat_toNat]
 ·
  rw [pubB, ← List.append_assoc]; exact take_at (by rw [List.length_append, p1, p2])
 ·
  rw [nameP, d2]; exact take_at hn
 rw [show 24 = 8 + 16 from rfl, ← List.drop_drop, d2]; exact drop_at hn
theorem pubB_E {x : PairV} {n w p H : Nat} (hx : PF x n w p H) {name : List UInt8} (hn : name.length = 16) (sec : List UInt8) : pairE (pubB x name sec) = 0 := by
 obtain ⟨h1, h2, _, _, _⟩ := pub_parts hx hn sec
 obtain ⟨z1, _, _, _, _⟩ := hx.sizes
 rw [pairE, if_neg (by omega), h2, if_neg (fun h => h hx.ok), if_neg (by omega)]
theorem lms_fits {x : PairV} {n w p H : Nat} (hx : PF x n w p H) {name : List UInt8} (hn : name.length = 16) (sec : List UInt8) {q : Nat} {tl : Nat} (text : List UInt8) (hq : q < pw2 H) (htl : tl ≤ 65536) : fitK (pubB x name sec) tl text (lsigB x name sec q text) := by
 obtain ⟨h1, h2, h3, h4, h5⟩ := pub_parts hx hn sec
 obtain ⟨s1, s2, s3, s4, s5⟩ := lsig_parts hx hn sec text hq
 obtain ⟨k1, k2⟩ := sta_sig hx.o hn sec q text (nl := 16) (tl := tl) rfl htl
 have hpw := pw2_25 hx.h2
 have hqb : getB (putB q 4) = q := by rw [getB_put, Nat.mod_eq_of_lt (by omega)]
 obtain ⟨_, _, _, z4, z5⟩ := hx.sizes
 have hcode : ((lsigB x name sec q text).drop 4).take 4 = putB x.o.toNat 4 := by
  have : ((lsigB x name sec q text).drop 4).take 4 = (sigB (otsV x.o) name sec q text).take 4 := by rw [← s3, List.take_take, Nat.min_eq_left z5]
  rw [this, sigB, hx.oc]
  exact take_at (putB_length 4 _)
 refine ⟨pubB_E hx hn sec, ?_, ?_⟩
 ·
  rw [h2, h4]
  refine ⟨s1, hcode, s4, by rw [s3]; exact k1, ?_⟩
  rw [s5, s2, hqb, climbE, if_pos (way_ok hx.s hn hx.th (keysX_len hx name sec) hq)]
 rw [h2, h4, h5, fitR, fitKey, s5, s2, hqb, s3, k2, ← keysX_get hx name sec hq]
 exact climb_root hx.s hn hx.th (keysX_len hx name sec) hq
theorem flat_len {α : Type} {f : α → List Value} {s : Nat} (hf : ∀ a, (f a).length = s) : ∀ (l : List α), (l.flatMap f).length = l.length * s
 | [] => by simp
 | a :: l => by rw [List.flatMap_cons, List.length_append, hf, flat_len hf l, List.length_cons, Nat.succ_mul]; omega
theorem flat_get {α : Type} {f : α → List Value} {s : Nat} (hf : ∀ a, (f a).length = s) : ∀ (l : List α) (i : Nat) (a : α), l[i]? = some a → ∀ j, j < s → (l.flatMap f)[i * s + j]? = (f a)[j]?
 | [], i, a, h, _, _ => by simp at h
 | b :: l, 0, a, h, j, hj => by
  obtain rfl : b = a := by simpa using h
  rw [List.flatMap_cons, Nat.zero_mul, Nat.zero_add, List.getElem?_append_left (by rw [hf]; exact hj)]
 | b :: l, i + 1, a, h, j, hj => by
  have h' : l[i]? = some a := by simpa using h
  rw [List.flatMap_cons, Nat.succ_mul, List.getElem?_append_right (by rw [hf]; omega), hf, show i * s + s + j - s = i * s + j by omega]
  exact flat_get hf l i a h' j hj
theorem flat_take {α : Type} {f : α → List Value} {s : Nat} (hf : ∀ a, (f a).length = s) : ∀ (l : List α) (i : Nat) (a : α), l[i]? = some a → ((l.flatMap f).drop (i * s)).take s = f a
 | [], i, a, h => by simp at h
 | b :: l, 0, a, h => by
  obtain rfl : b = a := by simpa using h
  rw [List.flatMap_cons, Nat.zero_mul, List.drop_zero, List.take_append_of_le_length (by rw [hf]; exact Nat.le_refl _), List.take_of_length_le (by rw [hf]; exact Nat.le_refl _)]
 | b :: l, i + 1, a, h => by
  have h' : l[i]? = some a := by simpa using h
  rw [List.flatMap_cons, Nat.succ_mul, List.drop_append, hf, show i * s + s - s = i * s by omega, List.drop_of_length_le (by rw [hf]; omega), List.nil_append]
  exact flat_take hf l i a h'
def p0 : PairV := ⟨0, 0⟩
def tv (p : PairV) : TreeV := treeV p.t
def prow (l : List PairV) : List Value := l.flatMap PairV.cells
def trow (ts : List TreeV) : List Value := ts.flatMap TreeV.cells
theorem pcl (p : PairV) : p.cells.length = 2 := rfl
theorem tcl (t : TreeV) : t.cells.length = 4 := rfl
def hN (t : TreeV) : Nat := t.h.toNat
def hsum (l : List TreeV) : Nat := (l.map hN).sum
def good (l : List PairV) (p : PairV) : Prop := okP p ∧ (tv p).kind = (tv (l.getD 0 p0)).kind ∧ (tv p).n = (tv (l.getD 0 p0)).n
instance {l : List PairV} {p : PairV} : Decidable (good l p) := inferInstanceAs (Decidable (_ ∧ _))
def okL (l : List PairV) : Prop := (1 ≤ l.length ∧ l.length ≤ 8) ∧ (∀ p ∈ l, good l p) ∧ hsum (l.map tv) ≤ 60
instance {l : List PairV} : Decidable (okL l) := inferInstanceAs (Decidable (_ ∧ _))
theorem okP_h {p : PairV} (h : okP p) : (tv p).h = ((hN (tv p) : Nat) : Int) ∧ 1 ≤ hN (tv p) ∧ hN (tv p) ≤ 25 := by
 have := treeV_facts h.2.1
 unfold hN tv
 omega
theorem hsum_snoc (l : List TreeV) (t : TreeV) : hsum (l ++ [t]) = hsum l + hN t := by simp [hsum]
theorem hsum_le {l : List PairV} (h : ∀ p ∈ l, okP p) : hsum (l.map tv) ≤ l.length * 25 := by
 induction l with
 | nil => simp [hsum]
 | cons p l ih =>
  have h1 := (okP_h (h p List.mem_cons_self)).2.2
  have h2 := ih (fun q hq => h q (List.mem_cons_of_mem _ hq))
  simp only [hsum, List.map_cons, List.sum_cons, List.length_cons] at h2 ⊢
  omega
section
variable {G : World} {M : Mem} {L : Own}
theorem trees_spec (hg : HsG M) {A : Option Addr} {n c : Nat} {l : List PairV} (h : Row M 2 A n c (prow l)) :
  Con Tryz.prog 91 #[.slice A n c] G M L (fun v M' L' => L' = L ∧ okL l ∧ ∃ A' c', v = .slice A' n c' ∧ Row M' 4 A' n c' (trow (l.map tv))) (fun ch M' L' => L' = L ∧ ¬ okL l ∧ ch = hwrong 4) := by
 have hmx := h.max
 have hle := h.le
 have hln : l.length = n := by have := h.len; rw [prow, flat_len pcl] at this; omega
 refine en Tryz.func91 rfl 63 rfl <| zr <| as0 rfl rfl <| zq <| x_join (I := fun F D M1 L1 => (1 ≤ n ∧ n ≤ 8) ∧ D = [] ∧ M = M1 ∧ L = L1 ∧ F = [(0, .slice A n c)]) ?_ (fun Jq1 => ?_)
 ·
  rintro _ _ _ _ ⟨h18, rfl, rfl, rfl, rfl⟩
  refine zr <| as0 rfl rfl <| zq <| zr <| as0 rfl rfl <| zq <| zr2 <| mvS rfl rfl <| tLen rfl rfl <| mv0 rfl rfl <| zq <| x_block ?_
  refine x_loop (I := fun m' F D M1 L1 => ∃ (k : Nat) (A1 : Option Addr) (c1 : Nat) (E : Own), m' = n - k ∧ k ≤ n ∧ Le M M1 ∧ OwnRow 105 4 A1 k c1 (trow ((l.take k).map tv)) E ∧ (∀ p ∈ l.take k, good l p) ∧ D = [] ∧ L1 = E ++ L ∧ F = [(3, .slice A1 k c1), (4, .int .i64 (hsum ((l.take k).map tv) : Nat)), (18, .slice A n c), (19, .int .i64 n), (20, .int .i64 k)]) (n) (F0 := [(3, _), (4, _), (18, _), (19, _), (20, _)]) ?_ (cs5 rfl rfl rfl rfl rfl) ?_
  ·
   exact ⟨0, none, 0, [], rfl, by omega, Le.refl _, .nil, fun p hp => by simp at hp, rfl, rfl, rfl⟩
  rintro m _ _ M1 L1 ⟨k, A1, c1, E, rfl, hk, hm, hE, hgd, rfl, rfl, rfl⟩
  have hs8 := hsum_le (fun p hp => (hgd p hp).1)
  have htl : (l.take k).length = k := by rw [List.length_take]; omega
  rw [htl] at hs8
  refine zr <| tl_y rfl (y_lss rfl rfl) <| zq <| x_seq <| x_cond rfl (fun hc1 => ?_) (fun hc1 => ?_)
  ·
   have hkn : k < n := by omega
   obtain ⟨p, hp⟩ : ∃ p, l[k]? = some p := ⟨_, List.getElem?_eq_getElem (by omega)⟩
   have hmem : p ∈ l := List.mem_of_getElem? hp
   have htk : l.take (k + 1) = l.take k ++ [p] := by
    rw [List.take_add_one, hp]; rfl
   obtain ⟨g, o, rfl, hcell⟩ := (h.mono hm).cellsN (by omega)
   have hc2 := fun L => hcell L (k * 2) 2 (by rw [prow, flat_len pcl]; omega)
   simp only [prow, flat_take pcl l k p hp] at hc2
   refine x_skip <| .then_normal <| x_seq <| x_block <| zr <| tl_y rfl (y_indexAddr rfl rfl (by omega)) <| tl_y rfl (y_loadAgg rfl rfl (.at_ (hc2 _) (by omega))) <| tl_e rfl <| e_alloc <| fun b1 => tl_e rfl <| e_st rfl rfl (by rfl) (by rfl) <| zq <| zr <| tLg rfl rfl rfl <| ec rfl rfl (lMay_spec (hg.mono hm) p) ?_
   rintro _ M2 _ hM2 ⟨rfl, rfl⟩
   replace hm := hm.trans hM2
   refine tl_e rfl (e_call rfl (hmust_spec _ _) (by
    rintro _ _ _ _ ⟨rfl, rfl, ht, rfl⟩
    exact TP.dropTo L ii (.retA rfl hm ⟨rfl, fun h => by have := (h.2.1 p hmem).1; simp [this] at ht, rfl⟩)) ?_)
   rintro _ _ _ _ ⟨rfl, rfl, ht⟩
   have hokp : okP p := by simpa using ht
   obtain ⟨hH, hH1, hH25⟩ := okP_h hokp
   refine zq <| .s6 3 4 6 18 19 20 rfl rfl rfl rfl rfl rfl <| zr <| tFa rfl rfl <| tLd rfl rfl rfl <| ec rfl rfl (Tree_spec (hg.mono hm).t p.t) ?_
   rintro _ M3 _ hM3 ⟨rfl, rfl⟩
   replace hm := hm.trans hM3
   refine mvU rfl rfl <| zx rfl rfl <| zx rfl rfl <| tl_e rfl <| e_alloc <| fun b2 => tl_e rfl <| e_st rfl rfl (by rfl) (by rfl) <| asI rfl rfl <| zq <| .s6 3 4 7 18 19 20 rfl rfl rfl rfl rfl rfl <| zr <| mvS rfl rfl <| tLg rfl rfl rfl <| tl_e rfl <| e_buildSlice rfl (by decide) <| fun b3 => .pub b3 ii <| fun M4 hM4 hb3 => ?_
   replace hm := hm.trans hM4
   refine .bringE E ii <| tl_e rfl <| e_append (by decide) rfl rfl hE (.row (Row.whole (s := 4) (vs := (tv p).cells) hb3 rfl (by omega))) rfl (by omega) (by omega) <| fun A5 c5 E5 hE5 => ?_
   have hrw : trow ((l.take k).map tv) ++ (tv p).cells = trow ((l.take (k + 1)).map tv) := by rw [htk, List.map_append]; simp [trow]
   rw [hrw] at hE5
   refine asS rfl rfl <| zq <| .s6 3 4 7 18 19 20 rfl rfl rfl rfl rfl rfl <| x_seq ?_
   have hq0 : ∃ u, ((l.take (k + 1)).map tv)[0]? = some u ∧ u = tv (l.getD 0 p0) := by
    refine ⟨_, List.getElem?_eq_getElem (by rw [List.length_map, List.length_take]; omega), ?_⟩
    rw [List.getElem_map, List.getElem_take, List.getD_eq_getElem?_getD, List.getElem?_eq_getElem (by omega)]
    rfl
   obtain ⟨u, hu, hue⟩ := hq0
   have hgu : good l p ↔ (tv p).kind = u.kind ∧ (tv p).n = u.n := by rw [hue]; exact ⟨fun h => h.2, fun h => ⟨hokp, h⟩⟩
   obtain ⟨g5, o5, rfl, hc5⟩ := hE5.cellIn (M := M4) (L := E5 ++ ((b2, .cells (List.toArray (tv p).cells) 105 (0, 0)) :: (b1, .cells (List.toArray p.cells) 63 (0, 0)) :: L)) ii (by rw [trow, flat_len tcl, List.length_map, List.length_take]; omega)
   have hv1 := hc5 (0 * 4 + 1) (.int .i64 u.kind) (by rw [trow, flat_get tcl _ 0 u hu 1 (by omega)]; rfl)
   have hv2 := hc5 (0 * 4 + 2) (.int .i64 u.n) (by rw [trow, flat_get tcl _ 0 u hu 2 (by omega)]; rfl)
   have hsn : hsum ((l.take (k + 1)).map tv) = hsum ((l.take k).map tv) + hN (tv p) := by rw [htk, List.map_append]; exact hsum_snoc _ _
   refine x_draw 17 hmix rfl <| zp 0 rfl rfl (y_fieldAddr rfl) <| zy 1 rfl rfl (y_ld rfl rfl) <| zp 2 rfl rfl (y_move (v := .slice _ _ _) rfl) <| zp 3 rfl rfl (y_indexAddr rfl rfl (by omega)) <| zp 4 rfl rfl (y_fieldAddr rfl) <| zy 5 rfl rfl (y_load rfl rfl (.at_ hv1 (by omega))) <| zp 6 rfl rfl (y_eql rfl rfl) <| zp 7 rfl rfl (y_move (v := .bool _) rfl) <| to_cases (s := 44) rfl (fun hk1 => ?_) (fun hk1 => ?_)
   ·
    refine zp 8 rfl rfl (y_fieldAddr rfl) <| zy 9 rfl rfl (y_ld rfl rfl) <| zp 10 rfl rfl (y_move (v := .slice _ _ _) rfl) <| zp 11 rfl rfl (y_indexAddr rfl rfl (by omega)) <| zp 12 rfl rfl (y_fieldAddr rfl) <| zy 13 rfl rfl (y_load rfl rfl (.at_ hv2 (by omega))) <| zp 14 rfl rfl (y_eql rfl rfl) <| zp 15 rfl rfl (y_pickT rfl rfl) <| to_e 16 rfl (by kernel_rfl) rfl (e_call rfl (hmust_spec _ _) (by
     rintro _ _ _ _ ⟨rfl, rfl, ht2, rfl⟩
     exact TP.dropTo L ii (.retA rfl hm ⟨rfl, fun h => absurd (hgu.1 (h.2.1 p hmem)).2 (of_decide_eq_false ht2), rfl⟩)) ?_)
    rintro _ _ _ _ ⟨rfl, rfl, ht2⟩
    refine ⟨⟨(by first | exact Le.refl _ | assumption), Keeps.mem⟩, ?_⟩
    refine zz <| .then_normal <| .s6 3 4 7 18 19 20 rfl rfl rfl rfl rfl rfl <| x_region <| mvI rfl rfl <| tFa rfl rfl <| tLd rfl rfl rfl ?_
    rw [show (treeV p.t).h = ((hN (tv p) : Nat) : Int) from hH]
    refine tl_y rfl (y_addI rfl rfl (by omega)) ?_
    rw [show ((hsum ((l.take k).map tv) : Nat) : Int) + ((hN (tv p) : Nat) : Int) = ((hsum ((l.take (k + 1)).map tv) : Nat) : Int) by rw [hsn]; omega]
    refine asI rfl rfl <| tl_nil <| .block_normal <| .then_normal <| .s5 3 4 18 19 20 rfl rfl rfl rfl rfl <| x_region <| tl_y rfl (y_addI rfl rfl (by omega)) <| mvI rfl rfl <| .dropTo (E5 ++ L) ii <| tl_nil <| .loop_next (m' := n - (k + 1)) (by omega) (F' := [(3, _), (4, _), (18, _), (19, _), (20, _)]) (cs5 rfl rfl rfl rfl rfl) ?_
    exact ⟨k + 1, _, c5, E5, rfl, by omega, hm, hE5, fun q hq => by
     rw [htk] at hq
     rcases List.mem_append.1 hq with hq | hq
     ·
      exact hgd q hq
     obtain rfl := List.mem_singleton.1 hq
     exact hgu.2 ⟨hk1, of_decide_eq_true ht2⟩, rfl, rfl, rfl⟩
   refine zs 8 rfl rfl <| zs 9 rfl rfl <| zs 10 rfl rfl <| zs 11 rfl rfl <| zs 12 rfl rfl <| zs 13 rfl rfl <| zs 14 rfl rfl <| zp 15 rfl rfl (y_pickF rfl rfl) <| to_e 16 rfl (by kernel_rfl) rfl (e_call rfl (hmust_spec _ _) (by
    rintro _ _ _ _ ⟨rfl, rfl, ht2, rfl⟩
    exact TP.dropTo L ii (.retA rfl hm ⟨rfl, fun h => hk1 (hgu.1 (h.2.1 p hmem)).1, rfl⟩)) ?_)
   rintro _ _ _ _ ⟨rfl, rfl, ht2⟩
   refine ⟨⟨(by first | exact Le.refl _ | assumption), Keeps.mem⟩, ?_⟩
   refine zz <| .then_normal <| .s6 3 4 7 18 19 20 rfl rfl rfl rfl rfl rfl <| x_region <| mvI rfl rfl <| tFa rfl rfl <| tLd rfl rfl rfl ?_
   rw [show (treeV p.t).h = ((hN (tv p) : Nat) : Int) from hH]
   refine tl_y rfl (y_addI rfl rfl (by omega)) ?_
   rw [show ((hsum ((l.take k).map tv) : Nat) : Int) + ((hN (tv p) : Nat) : Int) = ((hsum ((l.take (k + 1)).map tv) : Nat) : Int) by rw [hsn]; omega]
   refine asI rfl rfl <| tl_nil <| .block_normal <| .then_normal <| .s5 3 4 18 19 20 rfl rfl rfl rfl rfl <| x_region <| tl_y rfl (y_addI rfl rfl (by omega)) <| mvI rfl rfl <| .dropTo (E5 ++ L) ii <| tl_nil <| .loop_next (m' := n - (k + 1)) (by omega) (F' := [(3, _), (4, _), (18, _), (19, _), (20, _)]) (cs5 rfl rfl rfl rfl rfl) ?_
   exact absurd ht2 (by simp)
  obtain rfl : k = n := by omega
  rw [List.take_of_length_le (by omega)] at hE hgd ⊢
  refine x_exit <| .then_exit <| .loop_exit <| .block_exit <| .then_normal <| .s2 3 4 rfl rfl <| zr <| mvI rfl rfl <| tl_y rfl (y_leq rfl rfl) <| tl_e rfl (e_call rfl (hmust_spec _ _) (by
   rintro _ _ _ _ ⟨rfl, rfl, ht, rfl⟩
   exact TP.dropTo L ii (.retA rfl hm ⟨rfl, fun h => by have := h.2.2; simp at ht; omega, rfl⟩)) ?_)
  rintro _ _ _ _ ⟨rfl, rfl, ht⟩
  refine .pubRow hE <| fun M4 hM4 hrow => zq <| .s1 3 rfl <| zr <| mvS rfl rfl <| asS rfl rfl <| zq <| x_ret (ret1 rfl rfl (hm.trans hM4) ⟨rfl, ⟨⟨by omega, by omega⟩, hgd, by simp at ht; omega⟩, _, _, rfl, hrow⟩)
 refine x_region <| mvS rfl rfl <| tLen rfl rfl <| tl_y rfl (y_geq rfl rfl) <| mvB rfl rfl <| tl_cases (s := 12) rfl (fun hk2 => ?_) (fun hk2 => ?_)
 ·
  refine mvS rfl rfl <| tLen rfl rfl <| tl_y rfl (y_leq rfl rfl) <| tPt rfl rfl rfl <| tl_e rfl (e_call rfl (hmust_spec _ _) (by
   rintro _ _ _ _ ⟨rfl, rfl, ht, rfl⟩
   exact TP.dropTo L ii (.retA rfl (Le.refl _) ⟨rfl, fun h => by have := h.1; first | (cases ht; done) | (simp at ht; omega) | omega, rfl⟩)) ?_)
  rintro _ _ _ _ ⟨rfl, rfl, ht⟩
  refine zq <| .sub (F' := [(0, _)]) (.cons rfl .nil) <| Jq1 _ _ _ _ ?_
  exact ⟨by first | (cases ht; done) | (simp at ht; omega) | omega, rfl, rfl, rfl, rfl⟩
 refine tl_skip rfl <| tl_skip rfl <| tl_skip rfl <| tPf rfl rfl rfl <| tl_e rfl (e_call rfl (hmust_spec _ _) (by
  rintro _ _ _ _ ⟨rfl, rfl, ht, rfl⟩
  exact TP.dropTo L ii (.retA rfl (Le.refl _) ⟨rfl, fun h => by have := h.1; first | (cases ht; done) | (simp at ht; omega) | omega, rfl⟩)) ?_)
 rintro _ _ _ _ ⟨rfl, rfl, ht⟩
 refine zq <| .sub (F' := [(0, _)]) (.cons rfl .nil) <| Jq1 _ _ _ _ ?_
 exact ⟨by first | (cases ht; done) | (simp at ht; omega) | omega, rfl, rfl, rfl, rfl⟩
end
end Go.Proofs.YtplkoemjffplcaaGreatDoor
