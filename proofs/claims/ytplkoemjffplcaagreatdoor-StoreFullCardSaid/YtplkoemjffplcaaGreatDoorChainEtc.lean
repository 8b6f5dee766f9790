/-
Contracts of functions, each proved by a walk through its code.
-/
import Derived.Test.YtplkoemjffplcaaGreatDoorShakeEtc
import Derived.Test.YtplkoemjffplcaaGreatDoorShaEtc
import Derived.Test.YtplkoemjffplcaaGreatDoorEngWEtc
import Derived.Test.YtplkoemjffplcaaGreatDoorTypes1Etc
import Derived.Test.YtplkoemjffplcaaGreatDoorEngIEtc
set_option linter.all false
namespace Go.Proofs.YtplkoemjffplcaaGreatDoor
open Go Go.Eng
def csum (kind n : Int) (text : List UInt8) : List UInt8 := if kind = 0 then (sha text).take n.toNat else shk text n.toNat
def cSum (kind n : Int) (text : List UInt8) : List UInt8 := if okC kind n then csum kind n text else []
theorem csum_length {kind n : Int} (h : okC kind n) (text : List UInt8) (hs : (sha text).length = 32) : (csum kind n text).length = n.toNat := by
 unfold csum
 rcases h with ⟨_, h | h⟩ <;> subst h <;> split
 ·
  rw [List.length_take, hs]; rfl
 ·
  exact shk_length _ (by decide)
 ·
  rw [List.length_take, hs]; rfl
 exact shk_length _ (by decide)
section
variable {G : World} {M : Mem} {L : Own}
def wrongcv : Value := .iface 340 (.agg #[])
def wrongc : List PanicEntry := [{ v := wrongcv, recovered := false }]
theorem cmust_spec (t : Bool) :
  Con Tryz.prog 248 #[.bool t] G M L (fun v M' L' => M = M' ∧ L = L' ∧ t = true) (fun ch M' L' => M = M' ∧ L = L' ∧ t = false ∧ ch = wrongc) := by
 refine zfn Tryz.func248 rfl 6 rfl <| zr <| mvB rfl <| tl_y rfl (y_not rfl) <| zq <| x_condb rfl (fun hc1 => ?_) (fun hc1 => ?_)
 ·
  refine x_region <| tl_y rfl (y_build rfl) <| tl_y rfl (y_makeIface rfl (by intro _ h; cases h)) <| tl_e rfl (e_panic rfl (.ret lR ⟨rfl, rfl, by simpa using hc1, rfl⟩))
 refine x_skip (end0 rfl lR ⟨rfl, rfl, by simpa using hc1⟩)
theorem csum_spec (hg : ShaG M) (hk : KecG M) (kind n : Int) {A : Option Addr} {m c : Nat} {vs : List Value} {bss : List (List UInt8)} (h : Row M 1 A m c vs) (hb : BRows M vs bss) (hn : bss.flatten.length ≤ 1099511627776) :
  Con Tryz.prog 258 #[.int .i64 kind, .int .i64 n, .slice A m c] G M L (fun v M' L' => L' = L ∧ okC kind n ∧ ∃ A' c', v = .slice A' n.toNat c' ∧ Bytes M' A' n.toNat c' (csum kind n bss.flatten)) (fun ch M' L' => L' = L ∧ ¬ okC kind n ∧ ch = wrongc) := by
 refine zfn Tryz.func258 rfl 35 rfl <| zr <| as0 rfl <| zq <| x_join (I := fun F D M1 L1 => okC kind n ∧ D = [] ∧ M = M1 ∧ L = L1 ∧ F = [(0, .int .i64 kind), (1, .int .i64 n), (2, .slice A m c)]) ?_ (fun Jq1 => ?_)
 ·
  rintro _ _ _ _ ⟨hok, rfl, rfl, rfl, rfl⟩
  obtain ⟨n', rfl⟩ : ∃ n' : Nat, n = n' := ⟨n.toNat, by rcases hok.2 with rfl | rfl <;> rfl⟩
  have hnb : 24 ≤ n' ∧ n' ≤ 32 := by rcases hok.2 with h | h <;> omega
  refine zr <| mvS rfl <| zca rfl (Cat_spec h hb hn) ?_
  rintro _ M1 _ hM1 ⟨rfl, A1, c1, rfl, hA1⟩
  refine asS rfl <| zq <| zr2 <| mvI rfl <| tl_y rfl (y_eql rfl rfl) <| zq <| .s3 1 7 26 rfl rfl rfl <| x_cond rfl (fun hc1 => ?_) (fun hc1 => ?_)
  ·
   refine zr <| mvS rfl <| zca rfl (One_spec (hg.mono hM1) hA1 hn) ?_
   rintro _ M2 _ hM2 ⟨rfl, A2, c2, rfl, hA2⟩
   have hle2 := hA2.le
   refine mvI rfl <| mvI rfl <| tl_y rfl (y_slice3 rfl rfl rfl (by omega) (by omega)) <| asS rfl <| zq <| .s1 6 rfl <| x_ret (.then_ret (ret1 rfl rfl (hM1.trans hM2) ⟨rfl, hok, _, _, rfl, by
    have h1 := Bytes.take3 hA2 n' n' (by omega) (Nat.le_refl _) (by omega)
    rw [csum, if_pos hc1]; exact h1⟩))
  refine x_skip <| .then_normal <| zr <| mvS rfl <| mvI rfl <| zca rfl (ShSum_spec (hk.mono hM1) hA1 hn n' (by omega)) ?_
  rintro _ M2 _ hM2 ⟨A2, c2, rfl, hA2, rfl⟩
  refine asS rfl <| zq <| .s1 6 rfl <| x_ret (ret1 rfl rfl (hM1.trans hM2) ⟨rfl, hok, _, _, rfl, by rw [csum, if_neg hc1]; exact hA2⟩)
 refine x_region <| mvI rfl <| tl_y rfl (y_eql rfl rfl) <| mvB rfl <| tl_cases (s := 10) rfl (fun hk1 => ?_) (fun hk1 => ?_)
 ·
  refine sk2 rfl rfl <| tPt rfl rfl <| mvB rfl <| mvI rfl <| tl_y rfl (y_eql rfl rfl) <| mvB rfl <| tl_cases (s := 17) rfl (fun hk2 => ?_) (fun hk2 => ?_)
  ·
   refine sk2 rfl rfl <| tPt rfl rfl <| tPt rfl rfl <| tl_e rfl (e_call rfl (cmust_spec _) (by
    rintro _ _ _ _ ⟨rfl, rfl, ht, rfl⟩
    exact TP.dropTo L iI (.retA rfl lR ⟨rfl, by unfold okC; first | (cases ht; done) | (simp at ht; omega) | omega, rfl⟩)) ?_)
   rintro _ _ _ _ ⟨rfl, rfl, ht⟩
   refine zq <| .sub (F' := [(0, _), (1, _), (2, _)]) (cs3 rfl rfl rfl) <| Jq1 _ _ _ _ ?_
   exact ⟨by unfold okC; first | (cases ht; done) | (simp at ht; omega) | omega, rfl, rfl, rfl, rfl⟩
  refine mvI rfl <| tl_y rfl (y_eql rfl rfl) <| tPf rfl rfl <| tPt rfl rfl <| tl_e rfl (e_call rfl (cmust_spec _) (by
   rintro _ _ _ _ ⟨rfl, rfl, ht, rfl⟩
   exact TP.dropTo L iI (.retA rfl lR ⟨rfl, by unfold okC; first | (cases ht; done) | (simp at ht; omega) | omega, rfl⟩)) ?_)
  rintro _ _ _ _ ⟨rfl, rfl, ht⟩
  refine zq <| .sub (F' := [(0, _), (1, _), (2, _)]) (cs3 rfl rfl rfl) <| Jq1 _ _ _ _ ?_
  exact ⟨by unfold okC; first | (cases ht; done) | (simp at ht; omega) | omega, rfl, rfl, rfl, rfl⟩
 refine mvI rfl <| tl_y rfl (y_eql rfl rfl) <| tPf rfl rfl <| mvB rfl <| tl_cases (s := 14) rfl (fun hk3 => ?_) (fun hk3 => ?_)
 ·
  refine mvI rfl <| tl_y rfl (y_eql rfl rfl) <| mvB rfl <| tl_cases (s := 17) rfl (fun hk4 => ?_) (fun hk4 => ?_)
  ·
   refine sk2 rfl rfl <| tPt rfl rfl <| tPt rfl rfl <| tl_e rfl (e_call rfl (cmust_spec _) (by
    rintro _ _ _ _ ⟨rfl, rfl, ht, rfl⟩
    exact TP.dropTo L iI (.retA rfl lR ⟨rfl, by unfold okC; first | (cases ht; done) | (simp at ht; omega) | omega, rfl⟩)) ?_)
   rintro _ _ _ _ ⟨rfl, rfl, ht⟩
   refine zq <| .sub (F' := [(0, _), (1, _), (2, _)]) (cs3 rfl rfl rfl) <| Jq1 _ _ _ _ ?_
   exact ⟨by unfold okC; first | (cases ht; done) | (simp at ht; omega) | omega, rfl, rfl, rfl, rfl⟩
  refine mvI rfl <| tl_y rfl (y_eql rfl rfl) <| tPf rfl rfl <| tPt rfl rfl <| tl_e rfl (e_call rfl (cmust_spec _) (by
   rintro _ _ _ _ ⟨rfl, rfl, ht, rfl⟩
   exact TP.dropTo L iI (.retA rfl lR ⟨rfl, by unfold okC; first | (cases ht; done) | (simp at ht; omega) | omega, rfl⟩)) ?_)
  rintro _ _ _ _ ⟨rfl, rfl, ht⟩
  refine zq <| .sub (F' := [(0, _), (1, _), (2, _)]) (cs3 rfl rfl rfl) <| Jq1 _ _ _ _ ?_
  exact ⟨by unfold okC; first | (cases ht; done) | (simp at ht; omega) | omega, rfl, rfl, rfl, rfl⟩
 refine sk6 rfl rfl rfl rfl rfl rfl <| tPf rfl rfl <| tl_e rfl (e_call rfl (cmust_spec _) (by
  rintro _ _ _ _ ⟨rfl, rfl, ht, rfl⟩
  exact TP.dropTo L iI (.retA rfl lR ⟨rfl, by unfold okC; first | (cases ht; done) | (simp at ht; omega) | omega, rfl⟩)) ?_)
 rintro _ _ _ _ ⟨rfl, rfl, ht⟩
 refine zq <| .sub (F' := [(0, _), (1, _), (2, _)]) (cs3 rfl rfl rfl) <| Jq1 _ _ _ _ ?_
 exact ⟨by unfold okC; first | (cases ht; done) | (simp at ht; omega) | omega, rfl, rfl, rfl, rfl⟩
theorem caughtC1_ret {b : Nat} {o : Obj} : ConD Tryz.prog 271 #[.pointer (some ⟨b, 0, none⟩)] .returning G M ((b, o) :: L) (fun u' M' L' => u' = .returning ∧ M' = M ∧ L' = (b, o) :: L) := by
 refine enterRec (args := [_]) (fn := Tryz.f271) ⟨Tryz.func271, rfl, by kernel_rfl, by kernel_rfl⟩ 10 rfl rfl <| x_block <| zr <| tl_y rfl (y_eqNilIface rfl rfl) <| zq <| x_true rfl (rfl) <| x_region <| as0 rfl <| tl_nil (.block_normal (.rec_normal lR ⟨rfl, rfl, rfl⟩))
theorem caughtC1_wrong {b : Nat} {x : Value} : ConD Tryz.prog 271 #[.pointer (some ⟨b, 0, none⟩)] (.panicking wrongc) G M ((b, .cells #[x] 22 (0, 0)) :: L)
  (fun u' M' L' => u' = .panicking [{ v := wrongcv, recovered := true }] ∧ M' = M ∧ L' = (b, .cells #[.slice none 0 0] 22 (0, 0)) :: L) := by
 refine enterRec (args := [_]) (fn := Tryz.f271) ⟨Tryz.func271, rfl, by kernel_rfl, by kernel_rfl⟩ 10 rfl rfl <| x_block <| zr <| tl_y rfl (y_eqIfaceNil rfl rfl) <| zq <| x_false rfl (rfl) <| zr <| tl_y rfl (y_assertOk rfl (by intro _ h; cases h)) <| zx rfl <| zx rfl <| zq <| x_true rfl (rfl) <| zr <| tl_e rfl <| e_alloc <| fun b1 => tl_e rfl <| e_sT rfl rfl <| zq <| .s1 0 rfl <| x_region <| tl_e rfl <| e_sT rfl rfl <| tl_nil (.block_normal (.dropTo ((b, .cells #[.slice none 0 0] 22 (0, 0)) :: L) iI (.rec_normal lR ⟨rfl, rfl, rfl⟩)))
theorem caughtC_spec {wf : FuncId} {first cap : List Value} {K : Option Addr → Nat → Nat → Mem → Prop} {Kp : Prop}
  (hw : ∀ p, Con Tryz.prog wf (first ++ [] ++ cap).toArray G M (p :: L) (fun v M' L' => L' = p :: L ∧ ∃ A n c, v = .slice A n c ∧ K A n c M') (fun ch M' L' => L' = p :: L ∧ Kp ∧ ch = wrongc)) :
  Con Tryz.prog 245 #[.func (.func wf) first.toArray cap.toArray] G M L (fun v M' L' => L' = L ∧ ((∃ A n c, v = .slice A n c ∧ K A n c M') ∨ (v = .slice none 0 0 ∧ Kp))) noPanic := by
 refine enterD (args := [_]) (fn := Tryz.f245) ⟨Tryz.func245, rfl, by kernel_rfl, by kernel_rfl⟩ 6 rfl <| zr <| tl_e rfl <| e_alloc <| fun b1 => zq <| zr <| tl_y rfl (y_makeFunc rfl rfl) <| tl_e rfl <| e_defer rfl rfl rfl <| zq <| zr <| mvF rfl <| tl_e rfl (e_callv rfl rfl (hw _) (by
  rintro _ M1 _ hM1 ⟨rfl, hk, rfl⟩
  refine .retD (cap := [_]) (args := []) caughtC1_wrong ?_
  rintro _ M2 _ hM2 ⟨rfl, rfl, rfl⟩
  exact .inl ⟨rfl, _, L, rv1 rfl (rc_cell (by rfl) rfl (.own iI iI)), iI, hM1, rfl, .inr ⟨rfl, hk⟩⟩) ?_)
 rintro _ M1 _ hM1 ⟨rfl, A, n, c, rfl, hk⟩
 refine tl_e rfl <| e_sT rfl rfl <| zq <| .s1 2 rfl <| x_ret <| .retD (cap := [_]) (args := []) caughtC1_ret ?_
 rintro _ M2 _ hM2 ⟨rfl, rfl, rfl⟩
 exact .inl ⟨rfl, _, L, rv1 rfl (rc_cell (by rfl) rfl (.own iI iI)), iI, hM1, rfl, .inl ⟨A, n, c, rfl, hk⟩⟩
theorem Sum1_spec (hg : ShaG M) (hk : KecG M) (kind n : Int) {A : Option Addr} {m c : Nat} {vs : List Value} {bss : List (List UInt8)} (h : Row M 1 A m c vs) (hb : BRows M vs bss) (hn : bss.flatten.length ≤ 1099511627776) {b1 b2 b3 : Nat}
  [h1 : Has L b1 (.cells #[.int .i64 kind] 3 (0, 0))] [h2 : Has L b2 (.cells #[.int .i64 n] 3 (0, 0))] [h3 : Has L b3 (.cells #[.slice A m c] 44 (0, 0))] :
  Con Tryz.prog 267 #[.pointer (some ⟨b1, 0, none⟩), .pointer (some ⟨b2, 0, none⟩), .pointer (some ⟨b3, 0, none⟩)] G M L (fun v M' L' => L' = L ∧ ∃ A' m' c', v = .slice A' m' c' ∧ okC kind n ∧ m' = n.toNat ∧ Bytes M' A' m' c' (csum kind n bss.flatten)) (fun ch M' L' => L' = L ∧ ¬ okC kind n ∧ ch = wrongc) := by
 refine zfn Tryz.func267 rfl 8 rfl <| zr <| as0 rfl <| zq <| zr <| tLd rfl rfl <| tLd rfl rfl <| tLd rfl rfl <| tl_e rfl (e_call rfl (csum_spec hg hk kind n h hb hn) (by
  rintro _ M1 _ hM1 ⟨rfl, hno, rfl⟩
  exact .retA rfl hM1 ⟨rfl, hno, rfl⟩) ?_)
 rintro _ M1 _ hM1 ⟨rfl, hok, A1, c1, rfl, hA1⟩
 refine asS rfl <| zq <| .s1 3 rfl <| x_ret (ret1 rfl rfl hM1 ⟨rfl, _, _, _, rfl, hok, rfl, hA1⟩)
theorem Sum_spec (hg : ShaG M) (hk : KecG M) (kind n : Int) {A : Option Addr} {m c : Nat} {vs : List Value} {bss : List (List UInt8)} (h : Row M 1 A m c vs) (hb : BRows M vs bss) (hn : bss.flatten.length ≤ 1099511627776) :
  Con Tryz.prog 241 #[.int .i64 kind, .int .i64 n, .slice A m c] G M L (fun v M' L' => L' = L ∧ ∃ A' m' c', v = .slice A' m' c' ∧ Bytes M' A' m' c' (cSum kind n bss.flatten)) noPanic := by
 refine zfn Tryz.func241 rfl 9 rfl <| zr <| tl_e rfl <| e_box rfl <| fun b1 => tl_e rfl <| e_box rfl <| fun b2 => tl_e rfl <| e_box rfl <| fun b3 => as0 rfl <| zq <| .s3 3 4 5 rfl rfl rfl <| zr <| tl_y rfl (y_makeFunc rfl rfl) <| zca rfl (caughtC_spec (first := []) (cap := [.pointer (some ⟨b1, 0, none⟩), .pointer (some ⟨b2, 0, none⟩), .pointer (some ⟨b3, 0, none⟩)]) (K := fun A' m' c' M' => okC kind n ∧ m' = n.toNat ∧ Bytes M' A' m' c' (csum kind n bss.flatten)) (fun p => Sum1_spec hg hk kind n h hb hn)) ?_
 rintro v M1 _ hM1 ⟨rfl, hv⟩
 obtain ⟨A1, m1, c1, rfl, hA1⟩ : ∃ A' m' c', v = .slice A' m' c' ∧ Bytes M1 A' m' c' (cSum kind n bss.flatten) := by
  rcases hv with ⟨A', m', c', rfl, hok, rfl, hA⟩ | ⟨rfl, hno⟩
  ·
   exact ⟨_, _, _, rfl, by rw [cSum, if_pos hok]; exact hA⟩
  exact ⟨_, _, _, rfl, by rw [cSum, if_neg hno]; exact Row.nil _ _⟩
 refine asS rfl <| zq <| .s1 6 rfl <| x_ret (.dropTo L iI (ret1 rfl rfl hM1 ⟨rfl, _, _, _, rfl, hA1⟩))
end
def cPart (kind n : Int) (name : List UInt8) (q d : Nat) (text : List UInt8) : List UInt8 :=
 if name.length = 16 then cSum kind n (name ++ (putB q 4 ++ (putB d 2 ++ text))) else []
def stepT (name : List UInt8) (q i j : Nat) (x : List UInt8) : List UInt8 := name ++ (putB q 4 ++ (putB i 2 ++ (putB j 1 ++ x)))
def upC (o : OtsV) (name : List UInt8) (q i from_ : Nat) (x : List UInt8) : Nat → List UInt8
 | 0 => x
 | k + 1 => csum o.kind o.n (stepT name q i (from_ + k) (upC o name q i from_ x k))
def cUp (o : OtsV) (name : List UInt8) (q : Nat) (i from_ to : Int) (x : List UInt8) : List UInt8 :=
 if okR o name.length i x.length ∧ 0 ≤ from_ ∧ from_ ≤ to ∧ to ≤ (pw2 o.w.toNat : Nat) - 1 then upC o name q i.toNat from_.toNat x (to - from_).toNat else []
section
variable {G : World} {M : Mem} {L : Own}
theorem PutV_spec (v n : Nat) (hv : v < 18446744073709551616) (hn : n ≤ 8) :
  Con Tryz.prog 52 #[.int .u64 (v : Int), .int .i64 (n : Int)] G M L (fun r M' L' => L = L' ∧ ∃ A c, r = .slice A n c ∧ Bytes M' A n c (putB v n)) noPanic := by
 have h := PutN_spec (G := G) (M := M) (L := L) (UInt64.ofNat v) n hn
 rw [UInt64.toNat_ofNat', Nat.mod_eq_of_lt hv] at h
 exact h
theorem Part1_spec (hg : ShaG M) (hk : KecG M) (kind n : Int) {NA : Option Addr} {nl nc : Nat} {name : List UInt8} (hname : Bytes M NA nl nc name) (q : UInt32) (d : Nat) (hd : d ≤ 65535) {A : Option Addr} {m c : Nat} {vs : List Value} {bss : List (List UInt8)} (h : Row M 1 A m c vs) (hb : BRows M vs bss) (hn : bss.flatten.length ≤ 1000000000000) {b1 b2 b3 b4 b5 b6 : Nat}
  [i1 : Has L b1 (.cells #[.slice NA nl nc] 22 (0, 0))] [i2 : Has L b2 (.cells #[.int .u32 (q.toNat : Int)] 61 (0, 0))] [i3 : Has L b3 (.cells #[.int .u16 (d : Int)] 229 (0, 0))]
  [i4 : Has L b4 (.cells #[.int .i64 kind] 3 (0, 0))] [i5 : Has L b5 (.cells #[.int .i64 n] 3 (0, 0))] [i6 : Has L b6 (.cells #[.slice A m c] 44 (0, 0))] :
  Con Tryz.prog 257 #[.pointer (some ⟨b1, 0, none⟩), .pointer (some ⟨b2, 0, none⟩), .pointer (some ⟨b3, 0, none⟩), .pointer (some ⟨b4, 0, none⟩), .pointer (some ⟨b5, 0, none⟩), .pointer (some ⟨b6, 0, none⟩)] G M L
   (fun v M' L' => L' = L ∧ ∃ A' m' c', v = .slice A' m' c' ∧ nl = 16 ∧ okC kind n ∧ m' = n.toNat ∧ Bytes M' A' m' c' (csum kind n (name ++ (putB q.toNat 4 ++ (putB d 2 ++ bss.flatten))))) (fun ch M' L' => L' = L ∧ ¬ (nl = 16 ∧ okC kind n) ∧ ch = wrongc) := by
 have hnl := hname.size
 have hq := q.toNat_lt
 refine zfn Tryz.func257 rfl 28 rfl <| zr <| as0 rfl <| zq <| zr <| tLd rfl rfl <| tLen rfl <| tl_y rfl (y_eql rfl rfl) <| tl_e rfl (e_call rfl (cmust_spec _) (by
  rintro _ _ _ _ ⟨rfl, rfl, ht, rfl⟩
  simp at ht
  exact .retA rfl lR ⟨rfl, fun h => by omega, rfl⟩) ?_)
 rintro _ _ _ _ ⟨rfl, rfl, ht⟩
 simp at ht
 obtain rfl : nl = 16 := by omega
 refine zq <| .s6 0 1 2 3 4 5 rfl rfl rfl rfl rfl rfl <| x_seq <| x_draw 10 hmix rfl <| pLd 0 rfl rfl rfl <| pLd 1 rfl rfl rfl <| zp 2 rfl rfl (y_convN64 rfl (by omega)) <| pLd 4 rfl rfl rfl <| zp 5 rfl rfl (y_convN64 rfl (by omega)) ?_
 refine ze 3 rfl rfl <| e_call' rfl (PutV_spec q.toNat 4 (by omega) (by omega)) ?_
 rintro _ M1 _ hM1 ⟨rfl, A1, c1, rfl, hA1⟩
 refine kp ?_
 refine ze 6 rfl rfl <| e_call' rfl (PutV_spec d 2 (by omega) (by omega)) ?_
 rintro _ M2 _ hM2 ⟨rfl, A2, c2, rfl, hA2⟩
 refine ⟨⟨hM1.trans hM2, Keeps.mem⟩, ?_⟩
 refine ze 7 rfl rfl <| e_buildSlice rfl (by decide) <| fun b1 => ⟨⟨hM1.trans hM2, Keeps.mem⟩, ?_⟩
 refine .pub b1 iI <| fun M3 hM3 hb1 => ?_
 have hm3 := hM1.trans (hM2.trans hM3)
 have hfl : [name, putB q.toNat 4, putB d 2].flatten = name ++ (putB q.toNat 4 ++ putB d 2) := by simp
 have hfll : (name ++ (putB q.toNat 4 ++ putB d 2)).length = 22 := by rw [List.length_append, List.length_append, putB_length, putB_length, hnl]
 refine ze 8 rfl rfl <| e_call' rfl (Cat_spec (Row.whole hb1 rfl (by omega)) (.cons (hname.mono hm3) (.cons (hA1.mono (hM2.trans hM3)) (.cons (hA2.mono hM3) .nil))) (by rw [hfl, hfll]; omega)) ?_
 rintro _ M4 _ hM4 ⟨rfl, A4, c4, rfl, hA4⟩
 rw [hfl, hfll] at hA4
 rw [hfl, hfll]
 have hm4 := hm3.trans hM4
 refine ⟨⟨hm4, Keeps.mem⟩, ?_⟩
 refine paS 9 rfl rfl <| zz <| .then_normal <| .s4 3 4 5 7 rfl rfl rfl rfl <| x_seq <| x_draw 8 hmix rfl <| pLd 0 rfl rfl rfl <| pLd 1 rfl rfl rfl <| pmS 2 rfl rfl <| pLd 3 rfl rfl rfl <| ze 4 rfl rfl <| e_call' rfl (Cat_spec (h.mono hm4) (hb.mono hm4) (by omega)) ?_
 rintro _ M5 _ hM5 ⟨rfl, A5, c5, rfl, hA5⟩
 refine kp ?_
 refine ze 5 rfl rfl <| e_buildSlice rfl (by decide) <| fun b2' => ⟨⟨hM5, Keeps.mem⟩, ?_⟩
 refine .pub b2' iI <| fun M6 hM6 hb2' => ?_
 have hm6 := hm4.trans (hM5.trans hM6)
 have hfl2 : [name ++ (putB q.toNat 4 ++ putB d 2), bss.flatten].flatten = name ++ (putB q.toNat 4 ++ (putB d 2 ++ bss.flatten)) := by simp
 have hfll2 : (name ++ (putB q.toNat 4 ++ (putB d 2 ++ bss.flatten))).length = 22 + bss.flatten.length := by rw [List.length_append, List.length_append, List.length_append, putB_length, putB_length, hnl]; omega
 refine to_e 6 rfl (by kernel_rfl) rfl (e_call rfl (csum_spec (hg.mono hm6) (hk.mono hm6) kind n (Row.whole hb2' rfl (by omega)) (.cons (hA4.mono (hM5.trans hM6)) (.cons (hA5.mono hM6) .nil)) (by rw [hfl2, hfll2]; omega)) (by
  rintro _ M7 _ hM7 ⟨rfl, hno, rfl⟩
  exact .retA rfl (hm6.trans hM7) ⟨rfl, fun h => hno h.2, rfl⟩) ?_)
 rintro _ M7 _ hM7 ⟨rfl, hok, A7, c7, rfl, hA7⟩
 rw [hfl2] at hA7
 refine ⟨⟨hM5.trans (hM6.trans hM7), Keeps.mem⟩, ?_⟩
 refine paS 7 rfl rfl <| zz <| .then_normal <| .s1 6 rfl <| x_ret (ret1 rfl rfl (hm6.trans hM7) ⟨rfl, _, _, _, rfl, rfl, hok, rfl, hA7⟩)
theorem Part_spec (hg : ShaG M) (hk : KecG M) (kind n : Int) {NA : Option Addr} {nl nc : Nat} {name : List UInt8} (hname : Bytes M NA nl nc name) (q : UInt32) (d : Nat) (hd : d ≤ 65535) {A : Option Addr} {m c : Nat} {vs : List Value} {bss : List (List UInt8)} (h : Row M 1 A m c vs) (hb : BRows M vs bss) (hn : bss.flatten.length ≤ 1000000000000) :
  Con Tryz.prog 223 #[.int .i64 kind, .int .i64 n, .slice NA nl nc, .int .u32 (q.toNat : Int), .int .u16 (d : Int), .slice A m c] G M L (fun v M' L' => L' = L ∧ ∃ A' m' c', v = .slice A' m' c' ∧ Bytes M' A' m' c' (cPart kind n name q.toNat d bss.flatten)) noPanic := by
 have hnl := hname.size
 refine zfn Tryz.func223 rfl 15 rfl <| zr <| tl_e rfl <| e_box rfl <| fun b1 => tl_e rfl <| e_box rfl <| fun b2 => tl_e rfl <| e_box rfl <| fun b3 => tl_e rfl <| e_box rfl <| fun b4 => tl_e rfl <| e_box rfl <| fun b5 => tl_e rfl <| e_box rfl <| fun b6 => as0 rfl <| zq <| .s6 6 7 8 9 10 11 rfl rfl rfl rfl rfl rfl <| zr <| tl_y rfl (y_makeFunc rfl rfl) <| zca rfl (caughtC_spec (first := []) (cap := [.pointer (some ⟨b3, 0, none⟩), .pointer (some ⟨b4, 0, none⟩), .pointer (some ⟨b5, 0, none⟩), .pointer (some ⟨b1, 0, none⟩), .pointer (some ⟨b2, 0, none⟩), .pointer (some ⟨b6, 0, none⟩)]) (K := fun A' m' c' M' => nl = 16 ∧ okC kind n ∧ m' = n.toNat ∧ Bytes M' A' m' c' (csum kind n (name ++ (putB q.toNat 4 ++ (putB d 2 ++ bss.flatten))))) (fun p => Part1_spec hg hk kind n hname q d hd h hb hn)) ?_
 rintro v M1 _ hM1 ⟨rfl, hv⟩
 obtain ⟨A1, m1, c1, rfl, hA1⟩ : ∃ A' m' c', v = .slice A' m' c' ∧ Bytes M1 A' m' c' (cPart kind n name q.toNat d bss.flatten) := by
  rcases hv with ⟨A', m', c', rfl, hn16, hok, rfl, hA⟩ | ⟨rfl, hno⟩
  ·
   exact ⟨_, _, _, rfl, by rw [cPart, if_pos (by omega), cSum, if_pos hok]; exact hA⟩
  refine ⟨_, _, _, rfl, ?_⟩
  rw [cPart]
  split
  ·
   rw [cSum, if_neg (fun h => hno ⟨by omega, h⟩)]; exact Row.nil _ _
  exact Row.nil _ _
 refine asS rfl <| zq <| .s1 12 rfl <| x_ret (.dropTo L iI (ret1 rfl rfl hM1 ⟨rfl, _, _, _, rfl, hA1⟩))
end
section
variable {G : World} {M : Mem} {L : Own}
theorem right_spec (hs : SetG M) (o : OtsV) {NA XA : Option Addr} {nl nc xl xc : Nat} (i : Int) :
  Con Tryz.prog 247 #[.agg (List.toArray o.cells), .slice NA nl nc, .int .i64 i, .slice XA xl xc] G M L (fun v M' L' => L' = L ∧ okR o nl i xl) (fun ch M' L' => L' = L ∧ ¬ okR o nl i xl ∧ ch = wrongc) := by
 refine zfn Tryz.func247 rfl 46 rfl <| zr <| tl_e rfl <| e_box rfl <| fun b1 => zq <| zr <| tFa rfl <| tLd rfl rfl <| zca rfl (Ots_spec hs o.code) ?_
 rintro _ M1 _ hM1 ⟨rfl, rfl⟩
 refine mvU rfl <| zx rfl <| zx rfl <| tl_e rfl <| e_alloc <| fun b2 => tl_e rfl <| e_sT rfl rfl <| asI rfl <| zq <| .s6 1 2 3 4 8 9 rfl rfl rfl rfl rfl rfl <| x_region <| mvI rfl <| tl_y rfl (y_eql rfl rfl) <| mvB rfl <| tl_cases (s := 18) rfl (fun hk1 => ?_) (fun hk1 => ?_)
 ·
  refine tLg rfl rfl <| tLg rfl rfl <| tl_y rfl (y_eqlS rfl rfl eqs103) <| tPt rfl rfl <| mvB rfl <| tl_cases (s := 23) rfl (fun hk2 => ?_) (fun hk2 => ?_)
  ·
   refine mvS rfl <| tLen rfl <| tl_y rfl (y_eql rfl rfl) <| tPt rfl rfl <| mvB rfl <| tl_cases (s := 28) rfl (fun hk3 => ?_) (fun hk3 => ?_)
   ·
    refine mvI rfl <| tl_y rfl (y_geq rfl rfl) <| tPt rfl rfl <| mvB rfl <| tl_cases (s := 32) rfl (fun hk4 => ?_) (fun hk4 => ?_)
    ·
     refine mvI rfl <| tFa rfl <| tLd rfl rfl <| tl_y rfl (y_lss rfl rfl) <| tPt rfl rfl <| mvB rfl <| tl_cases (s := 38) rfl (fun hk5 => ?_) (fun hk5 => ?_)
     ·
      refine mvS rfl <| tLen rfl <| tFa rfl <| tLd rfl rfl <| tl_y rfl (y_eql rfl rfl) <| tPt rfl rfl <| tl_e rfl (e_call rfl (cmust_spec _) (by
       rintro _ _ _ _ ⟨rfl, rfl, ht, rfl⟩
       refine TP.dropTo L iI (.retA rfl hM1 ⟨rfl, ?_, rfl⟩)
       rintro ⟨a1, a2, a3, a4, a5, a6⟩
       first | (cases ht; done) | exact hk1 a1 | exact hk2 (eq_ots a2) | omega | (simp at ht; omega)) ?_)
      rintro _ _ _ _ ⟨rfl, rfl, ht⟩
      refine tl_nil (.dropTo L iI (end0 rfl hM1 ⟨rfl, by first | (cases ht; done) | (simp at ht; exact ⟨hk1, ots_eq hk2, by omega, by omega, by omega, by omega⟩)⟩))
     refine sk5 rfl rfl rfl rfl rfl <| tPf rfl rfl <| tl_e rfl (e_call rfl (cmust_spec _) (by
      rintro _ _ _ _ ⟨rfl, rfl, ht, rfl⟩
      refine TP.dropTo L iI (.retA rfl hM1 ⟨rfl, ?_, rfl⟩)
      rintro ⟨a1, a2, a3, a4, a5, a6⟩
      first | (cases ht; done) | exact hk1 a1 | exact hk2 (eq_ots a2) | omega | (simp at ht; omega)) ?_)
     rintro _ _ _ _ ⟨rfl, rfl, ht⟩
     refine tl_nil (.dropTo L iI (end0 rfl hM1 ⟨rfl, by first | (cases ht; done) | (simp at ht; exact ⟨hk1, ots_eq hk2, by omega, by omega, by omega, by omega⟩)⟩))
    refine sk4 rfl rfl rfl rfl <| tPf rfl rfl <| mvB rfl <| sk5 rfl rfl rfl rfl rfl <| tPf rfl rfl <| tl_e rfl (e_call rfl (cmust_spec _) (by
     rintro _ _ _ _ ⟨rfl, rfl, ht, rfl⟩
     refine TP.dropTo L iI (.retA rfl hM1 ⟨rfl, ?_, rfl⟩)
     rintro ⟨a1, a2, a3, a4, a5, a6⟩
     first | (cases ht; done) | exact hk1 a1 | exact hk2 (eq_ots a2) | omega | (simp at ht; omega)) ?_)
    rintro _ _ _ _ ⟨rfl, rfl, ht⟩
    refine tl_nil (.dropTo L iI (end0 rfl hM1 ⟨rfl, by first | (cases ht; done) | (simp at ht; exact ⟨hk1, ots_eq hk2, by omega, by omega, by omega, by omega⟩)⟩))
   refine sk2 rfl rfl <| tPf rfl rfl <| mvB rfl <| sk4 rfl rfl rfl rfl <| tPf rfl rfl <| mvB rfl <| sk5 rfl rfl rfl rfl rfl <| tPf rfl rfl <| tl_e rfl (e_call rfl (cmust_spec _) (by
    rintro _ _ _ _ ⟨rfl, rfl, ht, rfl⟩
    refine TP.dropTo L iI (.retA rfl hM1 ⟨rfl, ?_, rfl⟩)
    rintro ⟨a1, a2, a3, a4, a5, a6⟩
    first | (cases ht; done) | exact hk1 a1 | exact hk2 (eq_ots a2) | omega | (simp at ht; omega)) ?_)
   rintro _ _ _ _ ⟨rfl, rfl, ht⟩
   refine tl_nil (.dropTo L iI (end0 rfl hM1 ⟨rfl, by first | (cases ht; done) | (simp at ht; exact ⟨hk1, ots_eq hk2, by omega, by omega, by omega, by omega⟩)⟩))
  refine sk3 rfl rfl rfl <| tPf rfl rfl <| mvB rfl <| sk2 rfl rfl <| tPf rfl rfl <| mvB rfl <| sk4 rfl rfl rfl rfl <| tPf rfl rfl <| mvB rfl <| sk5 rfl rfl rfl rfl rfl <| tPf rfl rfl <| tl_e rfl (e_call rfl (cmust_spec _) (by
   rintro _ _ _ _ ⟨rfl, rfl, ht, rfl⟩
   refine TP.dropTo L iI (.retA rfl hM1 ⟨rfl, ?_, rfl⟩)
   rintro ⟨a1, a2, a3, a4, a5, a6⟩
   first | (cases ht; done) | exact hk1 a1 | exact hk2 (eq_ots a2) | omega | (simp at ht; omega)) ?_)
  rintro _ _ _ _ ⟨rfl, rfl, ht⟩
  refine tl_nil (.dropTo L iI (end0 rfl hM1 ⟨rfl, by first | (cases ht; done) | (simp at ht; exact ⟨hk1, ots_eq hk2, by omega, by omega, by omega, by omega⟩)⟩))
 refine sk3 rfl rfl rfl <| tPf rfl rfl <| mvB rfl <| sk3 rfl rfl rfl <| tPf rfl rfl <| mvB rfl <| sk2 rfl rfl <| tPf rfl rfl <| mvB rfl <| sk4 rfl rfl rfl rfl <| tPf rfl rfl <| mvB rfl <| sk5 rfl rfl rfl rfl rfl <| tPf rfl rfl <| tl_e rfl (e_call rfl (cmust_spec _) (by
  rintro _ _ _ _ ⟨rfl, rfl, ht, rfl⟩
  refine TP.dropTo L iI (.retA rfl hM1 ⟨rfl, ?_, rfl⟩)
  rintro ⟨a1, a2, a3, a4, a5, a6⟩
  first | (cases ht; done) | exact hk1 a1 | exact hk2 (eq_ots a2) | omega | (simp at ht; omega)) ?_)
 rintro _ _ _ _ ⟨rfl, rfl, ht⟩
 refine tl_nil (.dropTo L iI (end0 rfl hM1 ⟨rfl, by first | (cases ht; done) | (simp at ht; exact ⟨hk1, ots_eq hk2, by omega, by omega, by omega, by omega⟩)⟩))
theorem step_spec (hg : ShaG M) (hk : KecG M) (o : OtsV) (hok : okC o.kind o.n) {NA XA : Option Addr} {nl nc xl xc : Nat} {name x : List UInt8} (hname : Bytes M NA nl nc name) (hx : Bytes M XA xl xc x) (hnl : nl ≤ 1000000) (hxl : xl ≤ 1000000) (q : UInt32) (i j : Nat) (hi : i ≤ 65535) (hj : j ≤ 255) :
  Con Tryz.prog 249 #[.agg (List.toArray o.cells), .slice NA nl nc, .int .u32 (q.toNat : Int), .int .i64 (i : Int), .int .i64 (j : Int), .slice XA xl xc] G M L (fun v M' L' => L' = L ∧ ∃ A c, v = .slice A o.n.toNat c ∧ Bytes M' A o.n.toNat c (csum o.kind o.n (stepT name q.toNat i j x))) noPanic := by
 have hnls := hname.size
 have hxls := hx.size
 have hq := q.toNat_lt
 refine zfn Tryz.func249 rfl 30 rfl <| zr <| tl_e rfl <| e_box rfl <| fun b1 => as0 rfl <| zq <| x_seq <| x_draw 18 hmix rfl <| pFa 0 rfl rfl <| pLd 1 rfl rfl rfl <| pFa 2 rfl rfl ?_
 refine pLd 3 rfl rfl rfl <| pmS 4 rfl rfl <| pmI 5 rfl rfl <| zp 6 rfl rfl (y_convN64 rfl (by omega)) <| pmI 8 rfl rfl <| zp 9 rfl rfl (y_convN64 rfl (by omega)) <| pmI 11 rfl rfl <| zp 12 rfl rfl (y_convN64 rfl (by omega)) <| pmS 14 rfl rfl ?_
 refine ze 7 rfl rfl <| e_call' rfl (PutV_spec q.toNat 4 (by omega) (by omega)) ?_
 rintro _ M1 _ hM1 ⟨rfl, A1, c1, rfl, hA1⟩
 refine kp ?_
 refine ze 10 rfl rfl <| e_call' rfl (PutV_spec i 2 (by omega) (by omega)) ?_
 rintro _ M2 _ hM2 ⟨rfl, A2, c2, rfl, hA2⟩
 refine ⟨⟨hM1.trans hM2, Keeps.mem⟩, ?_⟩
 refine ze 13 rfl rfl <| e_call' rfl (PutV_spec j 1 (by omega) (by omega)) ?_
 rintro _ M3 _ hM3 ⟨rfl, A3, c3, rfl, hA3⟩
 have hm3 := hM1.trans (hM2.trans hM3)
 refine ⟨⟨hm3, Keeps.mem⟩, ?_⟩
 refine ze 15 rfl rfl <| e_buildSlice rfl (by decide) <| fun b2 => ⟨⟨hm3, Keeps.mem⟩, ?_⟩
 refine .pub b2 iI <| fun M4 hM4 hb2 => ?_
 have hm4 := hm3.trans hM4
 have hfl : [name, putB q.toNat 4, putB i 2, putB j 1, x].flatten = stepT name q.toNat i j x := by simp [stepT]
 have hfll : (stepT name q.toNat i j x).length = nl + 7 + xl := by
  rw [stepT, List.length_append, List.length_append, List.length_append, List.length_append, putB_length, putB_length, putB_length]; omega
 refine to_e 16 rfl (by kernel_rfl) rfl (e_call rfl (csum_spec (hg.mono hm4) (hk.mono hm4) o.kind o.n (Row.whole hb2 rfl (by omega)) (.cons (hname.mono hm4) (.cons (hA1.mono (hM2.trans (hM3.trans hM4))) (.cons (hA2.mono (hM3.trans hM4)) (.cons (hA3.mono hM4) (.cons (hx.mono hm4) .nil))))) (by rw [hfl, hfll]; omega)) (by
  rintro _ M7 _ hM7 ⟨_, hno, _⟩
  exact absurd hok hno) ?_)
 rintro _ M7 _ hM7 ⟨rfl, _, A7, c7, rfl, hA7⟩
 rw [hfl] at hA7
 refine ⟨⟨hm4.trans hM7, Keeps.mem⟩, ?_⟩
 refine paS 17 rfl rfl <| zz <| .then_normal <| .s1 12 rfl <| x_ret (.dropTo L iI (ret1 rfl rfl (hm4.trans hM7) ⟨rfl, _, _, rfl, hA7⟩))
end
theorem upC_length {o : OtsV} (hok : okC o.kind o.n) (hsha : ∀ t, (sha t).length = 32) (name : List UInt8) (q i f : Nat) {x : List UInt8} (hx : (x.length : Int) = o.n) (k : Nat) : ((upC o name q i f x k).length : Int) = o.n := by
 cases k with
 | zero => exact hx
 | succ k =>
  rw [upC, csum_length hok _ (hsha _)]
  rcases hok.2 with h | h <;> rw [h] <;> rfl
section
variable {G : World} {M : Mem} {L : Own}
theorem Up1_spec (hg : ShaG M) (hk : KecG M) (hs : SetG M) (o : OtsV) {NA XA : Option Addr} {nl nc xl xc : Nat} {name x : List UInt8} (hname : Bytes M NA nl nc name) (hx : Bytes M XA xl xc x) (q : UInt32) (i f t : Int) {b1 b2 b3 b4 b5 b6 b7 : Nat}
  [i1 : Has L b1 (.cells (List.toArray o.cells) 103 (0, 0))] [i2 : Has L b2 (.cells #[.slice NA nl nc] 22 (0, 0))] [i3 : Has L b3 (.cells #[.int .i64 i] 3 (0, 0))]
  [i4 : Has L b4 (.cells #[.slice XA xl xc] 22 (0, 0))] [i5 : Has L b5 (.cells #[.int .i64 f] 3 (0, 0))] [i6 : Has L b6 (.cells #[.int .i64 t] 3 (0, 0))] [i7 : Has L b7 (.cells #[.int .u32 (q.toNat : Int)] 61 (0, 0))] :
  Con Tryz.prog 246 #[.pointer (some ⟨b1, 0, none⟩), .pointer (some ⟨b2, 0, none⟩), .pointer (some ⟨b3, 0, none⟩), .pointer (some ⟨b4, 0, none⟩), .pointer (some ⟨b5, 0, none⟩), .pointer (some ⟨b6, 0, none⟩), .pointer (some ⟨b7, 0, none⟩)] G M L
   (fun v M' L' => L' = L ∧ ∃ A' m' c', v = .slice A' m' c' ∧ (okR o nl i xl ∧ 0 ≤ f ∧ f ≤ t ∧ t ≤ (pw2 o.w.toNat : Nat) - 1) ∧ m' = o.n.toNat ∧ Bytes M' A' m' c' (upC o name q.toNat i.toNat f.toNat x (t - f).toNat)) (fun ch M' L' => L' = L ∧ ¬ (okR o nl i xl ∧ 0 ≤ f ∧ f ≤ t ∧ t ≤ (pw2 o.w.toNat : Nat) - 1) ∧ ch = wrongc) := by
 have hnls := hname.size
 have hxls := hx.size
 refine zfn Tryz.func246 rfl 47 rfl <| zr <| as0 rfl <| zq <| zr <| tLg rfl rfl <| tLd rfl rfl <| tLd rfl rfl <| tLd rfl rfl <| tl_e rfl (e_call rfl (right_spec hs o i) (by
  rintro _ M1 _ hM1 ⟨rfl, hno, rfl⟩
  exact .retA rfl hM1 ⟨rfl, fun h => hno h.1, rfl⟩) ?_)
 rintro _ M1 L hM1 ⟨rfl, hok⟩
 obtain ⟨hoc, hop, w, hw, hww⟩ := okR_facts hok
 have hob : nl = 16 ∧ 0 ≤ i ∧ i < o.p ∧ (xl : Int) = o.n := hok.2.2
 have hon : o.n = 24 ∨ o.n = 32 := hoc.2
 have hpw := pw2_w hw
 have hwt : o.w.toNat = w := by omega
 rw [hwt]
 have hwi : 0 ≤ o.w := by omega
 have hshl : IntKind.i64.wrap (1 * 2 ^ (min o.w.toNat IntKind.i64.bits)) = ((pw2 w : Nat) : Int) := by rw [hww]; exact shl1_w hw
 obtain ⟨i', rfl⟩ : ∃ i' : Nat, i = i' := ⟨i.toNat, by omega⟩
 refine zq <| .s7 0 1 2 3 4 5 6 rfl rfl rfl rfl rfl rfl rfl <| x_seq <| x_meet (I := fun F D M2 L2 => (0 ≤ f ∧ f ≤ t ∧ t ≤ (pw2 w : Nat) - 1) ∧ D = [] ∧ M1 = M2 ∧ L = L2 ∧ F = [(0, .pointer (some ⟨b1, 0, none⟩)), (1, .pointer (some ⟨b2, 0, none⟩)), (2, .pointer (some ⟨b3, 0, none⟩)), (3, .pointer (some ⟨b4, 0, none⟩)), (4, .pointer (some ⟨b5, 0, none⟩)), (5, .pointer (some ⟨b6, 0, none⟩)), (6, .pointer (some ⟨b7, 0, none⟩))]) ?_ (fun Jd2 => ?_)
 ·
  rintro _ _ _ _ ⟨hj, rfl, rfl, rfl, rfl⟩
  obtain ⟨f', rfl⟩ : ∃ f' : Nat, f = f' := ⟨f.toNat, by omega⟩
  obtain ⟨t', rfl⟩ : ∃ t' : Nat, t = t' := ⟨t.toNat, by omega⟩
  refine zr <| tLd rfl rfl <| zca rfl (bytesClone_spec (hx.mono hM1) (by omega)) ?_
  rintro _ M3 L hM3 ⟨rfl, A3, c3, rfl, hA3⟩
  have hm3 := hM1.trans hM3
  refine asS rfl <| zq <| zr2 <| tLd rfl rfl <| asI rfl <| zq <| .s7 0 1 2 5 6 8 9 rfl rfl rfl rfl rfl rfl rfl <| x_block ?_
  refine x_loop (I := fun m' F D M4 L4 => ∃ (k : Nat) (A4 : Option Addr) (c4 : Nat), m' = t' - f' - k ∧ k ≤ t' - f' ∧ Le M M4 ∧ Bytes M4 A4 o.n.toNat c4 (upC o name q.toNat i' f' x k) ∧ D = [] ∧ L = L4 ∧ F = [(0, .pointer (some ⟨b1, 0, none⟩)), (1, .pointer (some ⟨b2, 0, none⟩)), (2, .pointer (some ⟨b3, 0, none⟩)), (5, .pointer (some ⟨b6, 0, none⟩)), (6, .pointer (some ⟨b7, 0, none⟩)), (8, .slice A4 o.n.toNat c4), (9, .int .i64 ((f' + k : Nat) : Int))]) (t' - f') (F0 := [(0, _), (1, _), (2, _), (5, _), (6, _), (8, _), (9, _)]) ?_ (cs7 rfl rfl rfl rfl rfl rfl rfl) ?_
  ·
   exact ⟨0, A3, c3, rfl, by omega, hm3, by rw [show o.n.toNat = xl by omega]; exact hA3, rfl, rfl, by rw [show o.n.toNat = xl by omega]; rfl⟩
  rintro m _ _ M4 L4 ⟨k, A4, c4, rfl, hkk, hM4, hA4, rfl, rfl, rfl⟩
  refine zr2 <| mvI rfl <| tLd rfl rfl <| tl_y rfl (y_lss rfl rfl) <| zq <| x_cond rfl (fun hc1 => ?_) (fun hc1 => ?_)
  ·
   refine x_skip <| .then_normal <| x_seq <| x_block <| x_region <| tLg rfl rfl <| tLd rfl rfl <| tLd rfl rfl <| tLd rfl rfl <| mvI rfl <| mvS rfl <| zca rfl (step_spec (hg.mono hM4) (hk.mono hM4) o hoc (hname.mono hM4) hA4 (by omega) (by omega) q i' (f' + k) (by omega) (by omega)) ?_
   rintro _ M5 _ hM5 ⟨rfl, A5, c5, rfl, hA5⟩
   refine asS rfl <| tl_nil <| .block_normal <| .then_normal <| .s7 0 1 2 5 6 8 9 rfl rfl rfl rfl rfl rfl rfl <| x_region <| mvI rfl <| tl_y rfl (y_addI rfl rfl (by omega)) ?_
   rw [show ((f' + k : Nat) : Int) + 1 = ((f' + (k + 1) : Nat) : Int) by omega]
   refine asI rfl <| tl_nil <| .loop_next (m' := t' - f' - (k + 1)) (by omega) (F' := [(0, _), (1, _), (2, _), (5, _), (6, _), (8, _), (9, _)]) (cs7 rfl rfl rfl rfl rfl rfl rfl) ?_
   exact ⟨k + 1, A5, c5, rfl, by omega, hM4.trans hM5, hA5, rfl, rfl, rfl⟩
  refine x_exit <| .then_exit <| .loop_exit <| .block_exit <| .then_normal <| .s1 8 rfl <| zr <| mvS rfl <| asS rfl <| zq <| x_ret (ret1 rfl rfl hM4 ⟨rfl, _, _, _, rfl, ⟨hok, hj⟩, rfl, by
   obtain rfl : k = t' - f' := by omega
   rw [show ((t' : Int) - (f' : Int)).toNat = t' - f' by omega]
   exact hA4⟩)
 refine x_draw 16 hmix rfl <| pLd 0 rfl rfl rfl <| zp 1 rfl rfl (y_geq rfl rfl) <| pmB 2 rfl rfl <| to_cases (s := 17) rfl (fun hk1 => ?_) (fun hk1 => ?_)
 ·
  refine pLd 3 rfl rfl rfl <| pLd 4 rfl rfl rfl <| zp 5 rfl rfl (y_leq rfl rfl) <| zp 6 rfl rfl (y_pickT rfl rfl) <| pmB 7 rfl rfl <| to_cases (s := 22) rfl (fun hk2 => ?_) (fun hk2 => ?_)
  ·
   refine pLd 8 rfl rfl rfl <| pFa 9 rfl rfl <| pLd 10 rfl rfl rfl <| zp 11 rfl rfl (y_shl rfl rfl (by omega)) ?_
   rw [hshl]
   refine zp 12 rfl rfl (y_subI rfl rfl (by omega)) <| zp 13 rfl rfl (y_leq rfl rfl) <| zp 14 rfl rfl (y_pickT rfl rfl) ?_
   refine to_e 15 rfl (by kernel_rfl) rfl (e_call rfl (cmust_spec _) (by
    rintro _ _ _ _ ⟨rfl, rfl, ht, rfl⟩
    exact .retA rfl hM1 ⟨rfl, fun h => by first | (cases ht; done) | (simp at ht; omega) | omega, rfl⟩) ?_)
   rintro _ _ _ _ ⟨rfl, rfl, ht⟩
   refine kp ?_
   refine zz <| .then_normal <| .sub (F' := [(0, _), (1, _), (2, _), (3, _), (4, _), (5, _), (6, _)]) (cs7 rfl rfl rfl rfl rfl rfl rfl) <| Jd2 _ _ _ _ ?_
   exact ⟨by first | (cases ht; done) | (simp at ht; omega) | omega, rfl, rfl, rfl, rfl⟩
  refine zs 8 rfl rfl <| zs 9 rfl rfl <| zs 10 rfl rfl <| zs 11 rfl rfl <| zs 12 rfl rfl <| zs 13 rfl rfl <| zp 14 rfl rfl (y_pickF rfl rfl) <| to_e 15 rfl (by kernel_rfl) rfl (e_call rfl (cmust_spec _) (by
   rintro _ _ _ _ ⟨rfl, rfl, ht, rfl⟩
   exact .retA rfl hM1 ⟨rfl, fun h => by first | (cases ht; done) | (simp at ht; omega) | omega, rfl⟩) ?_)
  rintro _ _ _ _ ⟨rfl, rfl, ht⟩
  refine kp ?_
  refine zz <| .then_normal <| .sub (F' := [(0, _), (1, _), (2, _), (3, _), (4, _), (5, _), (6, _)]) (cs7 rfl rfl rfl rfl rfl rfl rfl) <| Jd2 _ _ _ _ ?_
  exact ⟨by first | (cases ht; done) | (simp at ht; omega) | omega, rfl, rfl, rfl, rfl⟩
 refine zs 3 rfl rfl <| zs 4 rfl rfl <| zs 5 rfl rfl <| zp 6 rfl rfl (y_pickF rfl rfl) <| pmB 7 rfl rfl <| zs 8 rfl rfl <| zs 9 rfl rfl <| zs 10 rfl rfl <| zs 11 rfl rfl <| zs 12 rfl rfl ?_
 refine zs 13 rfl rfl <| zp 14 rfl rfl (y_pickF rfl rfl) <| to_e 15 rfl (by kernel_rfl) rfl (e_call rfl (cmust_spec _) (by
  rintro _ _ _ _ ⟨rfl, rfl, ht, rfl⟩
  exact .retA rfl hM1 ⟨rfl, fun h => by first | (cases ht; done) | (simp at ht; omega) | omega, rfl⟩) ?_)
 rintro _ _ _ _ ⟨rfl, rfl, ht⟩
 refine kp ?_
 refine zz <| .then_normal <| .sub (F' := [(0, _), (1, _), (2, _), (3, _), (4, _), (5, _), (6, _)]) (cs7 rfl rfl rfl rfl rfl rfl rfl) <| Jd2 _ _ _ _ ?_
 exact ⟨by first | (cases ht; done) | (simp at ht; omega) | omega, rfl, rfl, rfl, rfl⟩
theorem Up_spec' (hg : ShaG M) (hk : KecG M) (hs : SetG M) (o : OtsV) {NA XA : Option Addr} {nl nc xl xc : Nat} {name x : List UInt8} (hname : Bytes M NA nl nc name) (hx : Bytes M XA xl xc x) (q : UInt32) (i f t : Int) :
  Con Tryz.prog 201 #[.agg (List.toArray o.cells), .slice NA nl nc, .int .u32 (q.toNat : Int), .int .i64 i, .int .i64 f, .int .i64 t, .slice XA xl xc] G M L (fun v M' L' => L' = L ∧ ∃ A' m' c', v = .slice A' m' c' ∧ Bytes M' A' m' c' (cUp o name q.toNat i f t x)) noPanic := by
 have hnls := hname.size
 have hxls := hx.size
 refine zfn Tryz.func201 rfl 17 rfl <| zr <| tl_e rfl <| e_box rfl <| fun b1 => tl_e rfl <| e_box rfl <| fun b2 => tl_e rfl <| e_box rfl <| fun b3 => tl_e rfl <| e_box rfl <| fun b4 => tl_e rfl <| e_box rfl <| fun b5 => tl_e rfl <| e_box rfl <| fun b6 => tl_e rfl <| e_box rfl <| fun b7 => as0 rfl <| zq <| .s7 7 8 9 10 11 12 13 rfl rfl rfl rfl rfl rfl rfl <| zr <| tl_y rfl (y_makeFunc rfl rfl) <| zca rfl (caughtC_spec (first := []) (cap := [.pointer (some ⟨b1, 0, none⟩), .pointer (some ⟨b2, 0, none⟩), .pointer (some ⟨b4, 0, none⟩), .pointer (some ⟨b7, 0, none⟩), .pointer (some ⟨b5, 0, none⟩), .pointer (some ⟨b6, 0, none⟩), .pointer (some ⟨b3, 0, none⟩)]) (K := fun A' m' c' M' => (okR o nl i xl ∧ 0 ≤ f ∧ f ≤ t ∧ t ≤ (pw2 o.w.toNat : Nat) - 1) ∧ m' = o.n.toNat ∧ Bytes M' A' m' c' (upC o name q.toNat i.toNat f.toNat x (t - f).toNat)) (fun p => Up1_spec hg hk hs o hname hx q i f t)) ?_
 rintro v M1 _ hM1 ⟨rfl, hv⟩
 obtain ⟨A1, m1, c1, rfl, hA1⟩ : ∃ A' m' c', v = .slice A' m' c' ∧ Bytes M1 A' m' c' (cUp o name q.toNat i f t x) := by
  rcases hv with ⟨A', m', c', rfl, hok, rfl, hA⟩ | ⟨rfl, hno⟩
  ·
   exact ⟨_, _, _, rfl, by rw [cUp, hnls, hxls, if_pos hok]; exact hA⟩
  exact ⟨_, _, _, rfl, by rw [cUp, hnls, hxls, if_neg hno]; exact Row.nil _ _⟩
 refine asS rfl <| zq <| .s1 14 rfl <| x_ret (.dropTo L iI (ret1 rfl rfl hM1 ⟨rfl, _, _, _, rfl, hA1⟩))
end
theorem RowIn.cons {M : Mem} {L : Own} {s n : Nat} {A : Option Addr} {vs : List Value} {p : Nat × Obj} (h : RowIn M L s A n vs) : RowIn M (p :: L) s A n vs := ⟨h.len, fun hn => by
 obtain ⟨b, o, e, hc⟩ := h.addr hn
 exact ⟨b, o, e, fun j v hj w hw => hc j v hj w ⟨hw.ro, fun q hq => hw.own q (List.mem_cons_of_mem _ hq)⟩⟩⟩
section
variable {G : World} {M : Mem} {L : Own}
end
section
variable {G : World} {M : Mem} {L : Own}
theorem bool_iff {t : Bool} {p : Prop} [Decidable p] (h : t = true ↔ p) : t = decide p := by
 rw [Bool.eq_iff_iff, h]; simp
end
def dig (w c k : Nat) : Nat := c / 2 ^ (8 - w * (k + 1)) % 2 ^ w
def dpb (w : Nat) : Nat := 8 / w
def digAt (w : Nat) (bs : List UInt8) (m : Nat) : Nat := dig w (bs.getD (m / dpb w) 0).toNat (m % dpb w)
def digs (w : Nat) (bs : List UInt8) (m : Nat) : List Nat := (List.range m).map (digAt w bs)
def lackN (w : Nat) (bs : List UInt8) (m : Nat) : Nat := ((digs w bs m).map fun d => 2 ^ w - 1 - d).sum
theorem digs_len (w : Nat) (bs : List UInt8) (m : Nat) : (digs w bs m).length = m := by simp [digs]
theorem digs_succ (w : Nat) (bs : List UInt8) (m : Nat) : digs w bs (m + 1) = digs w bs m ++ [digAt w bs m] := by rw [digs, List.range_succ, List.map_append]; rfl
theorem lackN_succ (w : Nat) (bs : List UInt8) (m : Nat) : lackN w bs (m + 1) = lackN w bs m + (2 ^ w - 1 - digAt w bs m) := by
 rw [lackN, digs_succ, List.map_append, List.sum_append]; simp [lackN]
theorem dpb_pos {w : Nat} (h : isW w) : 1 ≤ dpb w ∧ w * dpb w = 8 := by rcases h with rfl | rfl | rfl | rfl <;> decide
theorem digAt_lt (w : Nat) (bs : List UInt8) (m : Nat) : digAt w bs m < 2 ^ w := Nat.mod_lt _ (Nat.two_pow_pos w)
theorem lackN_le (w : Nat) (bs : List UInt8) : ∀ m, lackN w bs m ≤ m * (2 ^ w - 1)
 | 0 => by simp [lackN, digs]
 | m + 1 => by
  have := lackN_le w bs m
  rw [lackN_succ, Nat.succ_mul]
  omega
theorem lack_fits {n w : Nat} (hn : isN n) (hw : isW w) : shX n w * 2 ^ shS n w < 65536 ∧ shX n w = n * dpb w * (2 ^ w - 1) ∧ shV n w ≤ 2 * dpb w ∧ shU n w = n * dpb w := by
 rcases hn with rfl | rfl <;> rcases hw with rfl | rfl | rfl | rfl <;> decide
def lackX (n w : Nat) (bs : List UInt8) : Nat := lackN w bs (n * dpb w) * 2 ^ shS n w
theorem lackX_lt {n w : Nat} (hn : isN n) (hw : isW w) (bs : List UInt8) : lackX n w bs < 65536 := by
 obtain ⟨h1, h2, _⟩ := lack_fits hn hw
 have h3 := lackN_le w bs (n * dpb w)
 rw [← h2] at h3
 exact Nat.lt_of_le_of_lt (Nat.mul_le_mul_right _ h3) h1
def two (x : Nat) : List UInt8 := [UInt8.ofNat (x / 256), UInt8.ofNat (x % 256)]
def allD (n w : Nat) (bs : List UInt8) : List Nat := digs w bs (n * dpb w) ++ (digs w (two (lackX n w bs)) (2 * dpb w)).take (shV n w)
theorem allD_len {n w : Nat} (hn : isN n) (hw : isW w) (bs : List UInt8) : (allD n w bs).length = shU n w + shV n w := by
 obtain ⟨_, _, h3, h4⟩ := lack_fits hn hw
 rw [allD, List.length_append, digs_len, List.length_take, digs_len, Nat.min_eq_left h3, h4]
theorem allD_lt {n w : Nat} (bs : List UInt8) : ∀ d ∈ allD n w bs, d < 2 ^ w := by
 intro d hd
 rcases List.mem_append.1 hd with h | h
 ·
  obtain ⟨m, _, rfl⟩ := List.mem_map.1 h
  exact digAt_lt _ _ _
 obtain ⟨m, _, rfl⟩ := List.mem_map.1 (List.mem_of_mem_take h)
 exact digAt_lt _ _ _
theorem and_one : ∀ x : Fin 256, IntKind.i64.wrap (((BitVec.ofInt IntKind.i64.bits (x.val : Int) &&& BitVec.ofInt IntKind.i64.bits 1).toNat : Nat) : Int) = ((x.val % 2 : Nat) : Int) := by decide +kernel
theorem and_three : ∀ x : Fin 256, IntKind.i64.wrap (((BitVec.ofInt IntKind.i64.bits (x.val : Int) &&& BitVec.ofInt IntKind.i64.bits 3).toNat : Nat) : Int) = ((x.val % 4 : Nat) : Int) := by decide +kernel
theorem and_15 : ∀ x : Fin 256, IntKind.i64.wrap (((BitVec.ofInt IntKind.i64.bits (x.val : Int) &&& BitVec.ofInt IntKind.i64.bits 15).toNat : Nat) : Int) = ((x.val % 16 : Nat) : Int) := by decide +kernel
theorem and_255 : ∀ x : Fin 256, IntKind.i64.wrap (((BitVec.ofInt IntKind.i64.bits (x.val : Int) &&& BitVec.ofInt IntKind.i64.bits 255).toNat : Nat) : Int) = ((x.val % 256 : Nat) : Int) := by decide +kernel
theorem and_w {w x : Nat} (h : isW w) (hx : x < 256) : IntKind.i64.wrap (((BitVec.ofInt IntKind.i64.bits (x : Int) &&& BitVec.ofInt IntKind.i64.bits (((2 ^ w : Nat) : Int) - 1)).toNat : Nat) : Int) = ((x % 2 ^ w : Nat) : Int) := by
 rcases h with rfl | rfl | rfl | rfl
 ·
  exact and_one ⟨x, hx⟩
 ·
  exact and_three ⟨x, hx⟩
 ·
  exact and_15 ⟨x, hx⟩
 exact and_255 ⟨x, hx⟩
section
variable {G : World} {M : Mem} {L : Own}
theorem each_spec {A : Option Addr} {n c : Nat} (w : Int) :
  Con Tryz.prog 276 #[.slice A n c, .int .i64 w] G M L (fun v M' L' => M = M' ∧ ∃ x0 x1, L' = (x0, .cells #[.slice A n c] 22 (0, 0)) :: (x1, .cells #[.int .i64 w] 3 (0, 0)) :: L ∧ v = .func (.func 281) #[] #[.pointer (some ⟨x0, 0, none⟩), .pointer (some ⟨x1, 0, none⟩)]) noPanic := by
 refine zfn Tryz.func276 rfl 6 rfl <| zr <| tl_e rfl <| e_box rfl <| fun b1 => tl_e rfl <| e_box rfl <| fun b2 => as0 rfl <| zq <| zr <| tl_y rfl (y_makeFunc rfl rfl) <| asF rfl <| zq <| .s1 4 rfl <| x_ret (.to ((b1, .cells #[.slice A n c] 22 (0, 0)) :: (b2, .cells #[.int .i64 w] 3 (0, 0)) :: L) iI (ret1 rfl rfl lR ⟨rfl, b1, b2, rfl, rfl⟩))
theorem each1_spec {l x0 x1 : Nat} {A : Option Addr} {n c w : Nat} (hw : isW w) {bs : List UInt8} {X0 : Own} (hb : Bytes M A n c bs) (hn : n ≤ 1000000000000) {Inv : Nat → Mem → Own → Prop} {Dn : Mem → Own → Prop}
  (hy : ∀ m M1 X1, m < n * dpb w → Le M M1 → Inv m M1 X1 → YCon Tryz.prog l [.int .i64 ((digAt w bs m : Nat) : Int)] G M1 X1 (Inv (m + 1)) Dn) (h0 : Inv 0 M X0) :
  Con Tryz.prog 281 #[.func (.yield l) #[] #[], .pointer (some ⟨x0, 0, none⟩), .pointer (some ⟨x1, 0, none⟩)] G M ((x0, .cells #[.slice A n c] 22 (0, 0)) :: (x1, .cells #[.int .i64 (w : Int)] 3 (0, 0)) :: X0)
   (fun v M' L' => ∃ X', L' = (x0, .cells #[.slice A n c] 22 (0, 0)) :: (x1, .cells #[.int .i64 (w : Int)] 3 (0, 0)) :: X' ∧ (Inv (n * dpb w) M' X' ∨ Dn M' X')) noPanic := by
 have hmx := hb.max
 have hle := hb.le
 have hbl := hb.size
 obtain ⟨hd1, hd8⟩ := dpb_pos hw
 have hw8 : 1 ≤ w ∧ w ≤ 8 := by rcases hw with rfl | rfl | rfl | rfl <;> omega
 have hsh := shl1_w hw
 have h2w : 2 ≤ 2 ^ w ∧ 2 ^ w ≤ 256 := pw2_w hw
 refine zfn Tryz.func281 rfl 32 rfl <| zr <| tLd rfl rfl <| tLen rfl <| mv0 rfl <| zq <| x_block ?_
 refine x_loop (I := fun m' F D M1 L1 => ∃ (i : Nat) (X1 : Own), m' = n - i ∧ i ≤ n ∧ Le M M1 ∧ Inv (i * dpb w) M1 X1 ∧ D = [] ∧ L1 = (x0, .cells #[.slice A n c] 22 (0, 0)) :: (x1, .cells #[.int .i64 (w : Int)] 3 (0, 0)) :: X1 ∧ F = [(0, .func (.yield l) #[] #[]), (2, .pointer (some ⟨x1, 0, none⟩)), (7, .slice A n c), (8, .int .i64 (n : Int)), (9, .int .i64 (i : Int))]) (n) (F0 := [(0, _), (2, _), (7, _), (8, _), (9, _)]) ?_ (cs5 rfl rfl rfl rfl rfl) ?_
 ·
  exact ⟨0, X0, rfl, by omega, Le.refl _, by rw [Nat.zero_mul]; exact h0, rfl, rfl, rfl⟩
 rintro m _ _ M1 L1 ⟨i, X1, rfl, hi, hM1, hI, rfl, rfl, rfl⟩
 refine zr <| tl_y rfl (y_lss rfl rfl) <| zq <| x_seq <| x_cond rfl (fun hc1 => ?_) (fun hc1 => ?_)
 ·
  have hin : i < n := by omega
  obtain ⟨g, o, rfl, hcell⟩ := (hb.mono hM1).byte (by omega)
  obtain ⟨cc, hcc⟩ : ∃ cc, cc = bs.getD i 0 := ⟨_, rfl⟩
  have hc8 := cc.toNat_lt
  refine x_skip <| .then_normal <| x_seq <| x_block <| zr <| tl_y rfl (y_indexAddrK i rfl rfl (by omega)) <| tl_y rfl (y_load rfl rfl (.at_ (hcell _ i (by omega)) (by omega))) ?_
  rw [← hcc]
  refine asI rfl <| zq <| zr <| tLd rfl rfl <| tl_y rfl (y_subI rfl rfl (by omega)) <| asI rfl <| zq <| .s7 0 2 5 6 7 8 9 rfl rfl rfl rfl rfl rfl rfl <| x_block ?_
  refine x_loop (I := fun m' F D M2 L2 => ∃ (k : Nat) (X2 : Own), m' = dpb w - k ∧ k ≤ dpb w ∧ Le M M2 ∧ Inv (i * dpb w + k) M2 X2 ∧ D = [] ∧ L2 = (x0, .cells #[.slice (some ⟨g, o, none⟩) n c] 22 (0, 0)) :: (x1, .cells #[.int .i64 (w : Int)] 3 (0, 0)) :: X2 ∧ F = [(0, .func (.yield l) #[] #[]), (2, .pointer (some ⟨x1, 0, none⟩)), (5, .int .u8 (cc.toNat : Int)), (6, .int .i64 (8 - ((w * (k + 1) : Nat) : Int))), (7, .slice (some ⟨g, o, none⟩) n c), (8, .int .i64 (n : Int)), (9, .int .i64 (i : Int))]) (dpb w) (F0 := [(0, _), (2, _), (5, _), (6, _), (7, _), (8, _), (9, _)]) ?_ (cs7 rfl rfl rfl rfl rfl rfl rfl) ?_
  ·
   exact ⟨0, X1, rfl, by omega, hM1, hI, rfl, rfl, by rw [Nat.zero_add, Nat.mul_one]⟩
  rintro m _ _ M2 L2 ⟨k, X2, rfl, hk, hM2, hI2, rfl, rfl, rfl⟩
  have hwk : w * (k + 1) = w * k + w := Nat.mul_succ w k
  have hwk2 : w * (k + 1 + 1) = w * (k + 1) + w := Nat.mul_succ w (k + 1)
  refine zr2 <| mvI rfl <| tl_y rfl (y_geq rfl rfl) <| zq <| x_cond rfl (fun hc2 => ?_) (fun hc2 => ?_)
  ·
   have hkd : k < dpb w := by
    rcases Nat.lt_or_ge k (dpb w) with h | h
    ·
     exact h
    have := Nat.mul_le_mul_left w h
    omega
   have hwk8 : w * (k + 1) ≤ 8 := by
    have := Nat.mul_le_mul_left w (show k + 1 ≤ dpb w from hkd)
    omega
   have hm : i * dpb w + k < n * dpb w := by
    have := Nat.mul_le_mul_right (dpb w) (show i + 1 ≤ n from hin)
    rw [Nat.succ_mul] at this
    omega
   have hdg : digAt w bs (i * dpb w + k) = cc.toNat / 2 ^ (8 - w * (k + 1)) % 2 ^ w := by
    rw [digAt, dig, hcc, Nat.mul_comm i, Nat.mul_add_div (by omega), Nat.div_eq_of_lt hkd, Nat.add_zero, Nat.mul_add_mod, Nat.mod_eq_of_lt hkd]
   have hq : cc.toNat / 2 ^ (8 - w * (k + 1)) < 256 := Nat.lt_of_le_of_lt (Nat.div_le_self _ _) hc8
   have hfd : Int.fdiv (cc.toNat : Int) (2 ^ (min (8 - ((w * (k + 1) : Nat) : Int)).toNat IntKind.i64.bits)) = ((cc.toNat / 2 ^ (8 - w * (k + 1)) : Nat) : Int) := by
    rw [show (8 - ((w * (k + 1) : Nat) : Int)).toNat = 8 - w * (k + 1) by omega, Nat.min_eq_left (by show _ ≤ 64; omega), Int.fdiv_eq_ediv_of_nonneg _ (by exact Int.pow_nonneg (by decide))]
    rw [Int.natCast_ediv, Int.natCast_pow]; first | rfl | done
   refine x_skip <| .then_normal <| x_seq <| x_block <| x_seq <| x_draw0 11 ([(x1, .cells #[.int .i64 (w : Int)] 3 (0, 0))]) Keeps.mem hmix rfl <| pmF 0 rfl rfl <| pmI 1 rfl rfl <| zp 2 rfl rfl (y_convI rfl (by omega)) <| pmI 3 rfl rfl <| zp 4 rfl rfl (y_shr rfl rfl (by omega)) ?_
   rw [hfd]
   refine pLd 5 rfl rfl rfl <| zp 6 rfl rfl (y_shl rfl rfl (by omega)) ?_
   rw [hsh]
   refine zp 7 rfl rfl (y_subI rfl rfl (by omega)) <| zp 8 rfl rfl (y_and rfl rfl) ?_
   rw [and_w hw hq, ← hdg]
   refine ze 9 rfl rfl <| e_yieldB (R := [(x0, .cells #[.slice (some ⟨g, o, none⟩) n c] 22 (0, 0)), (x1, .cells #[.int .i64 (w : Int)] 3 (0, 0))]) (X := X2) rfl rfl (hy (i * dpb w + k) M2 X2 hm hM2 hI2) <| fun b M3 X3 hM3 hbb => ?_
   simp only [List.cons_append, List.nil_append]
   refine kp ?_
   refine zp 10 rfl rfl (y_not rfl) <| zz <| .then_normal <| .s8 0 2 5 6 7 8 9 30 rfl rfl rfl rfl rfl rfl rfl rfl <| x_condb rfl (fun hc3 => ?_) (fun hc3 => ?_)
   ·
    refine x_ret (.block_ret (.then_ret (.loop_ret (.block_ret (.block_ret (.then_ret (.loop_ret (.block_ret (ret0 rfl (hM2.trans hM3) ⟨X3, rfl, by
     rcases hbb with ⟨rfl, _⟩ | ⟨_, hbb⟩
     ·
      simp at hc3
     exact .inr hbb⟩)))))))))
   refine x_skip <| .block_normal <| .then_normal <| x_region <| mvI rfl <| tLd rfl rfl <| tl_y rfl (y_subI rfl rfl (by omega)) ?_
   rw [show (8 - ((w * (k + 1) : Nat) : Int)) - (w : Int) = 8 - ((w * (k + 1 + 1) : Nat) : Int) by omega]
   refine asI rfl <| tl_nil <| .loop_next (m' := dpb w - (k + 1)) (by omega) (F' := [(0, _), (2, _), (5, _), (6, _), (7, _), (8, _), (9, _)]) (cs7 rfl rfl rfl rfl rfl rfl rfl) ?_
   exact ⟨k + 1, X3, rfl, by omega, hM2.trans hM3, by
    rcases hbb with ⟨_, hbb⟩ | ⟨rfl, hbb⟩
    ·
     exact hbb
    simp at hc3, rfl, rfl, rfl⟩
  have hke : k = dpb w := by
   rcases Nat.lt_or_ge k (dpb w) with h | h
   ·
    have := Nat.mul_le_mul_left w (show k + 1 ≤ dpb w from h)
    omega
   omega
  refine x_exit <| .then_exit <| .loop_exit <| .block_exit <| .block_normal <| .then_normal <| .s5 0 2 7 8 9 rfl rfl rfl rfl rfl <| x_region <| tl_y rfl (y_addI rfl rfl (by omega)) <| mvI rfl <| tl_nil <| .loop_next (m' := n - (i + 1)) (by omega) (F' := [(0, _), (2, _), (7, _), (8, _), (9, _)]) (cs5 rfl rfl rfl rfl rfl) ?_
  exact ⟨i + 1, X2, rfl, by omega, hM2, by rw [Nat.succ_mul, ← hke]; rw [← hke] at hI2; exact hI2, rfl, rfl, rfl⟩
 refine x_exit (.then_exit (.loop_exit (.block_exit (end0 rfl hM1 ⟨X1, rfl, .inl (by
  obtain rfl : i = n := by omega
  exact hI)⟩))))
end
def intsL (xs : List Nat) : List Value := xs.map fun (x : Nat) => Value.int .i64 (x : Int)
theorem intsL_one (xs : List Nat) : (intsL xs).all one = true := by simp [intsL, one, Value.oneCell']
theorem intsL_one' (xs : List Nat) (i j : Nat) : (((intsL xs).drop i).take j).all one = true := by
 rw [List.all_eq_true]
 intro v hv
 exact List.all_eq_true.1 (intsL_one xs) v (List.mem_of_mem_drop (List.mem_of_mem_take hv))
theorem allD_vals (n w v : Nat) (bs : List UInt8) (h : v = shV n w) : intsL (digs w bs (n * dpb w)) ++ ((intsL (digs w (two (lackX n w bs)) (2 * dpb w))).drop (0 * 1)).take ((v - 0) * 1) = intsL (allD n w bs) := by
 rw [allD, Nat.zero_mul, List.drop_zero, Nat.sub_zero, Nat.mul_one, h, intsL, intsL, intsL, List.map_append, List.map_take]
theorem dpb_le {w : Nat} (h : isW w) (n : Nat) (hn : n ≤ 1000000000) : n * dpb w ≤ 8000000000 := by
 have h1 : dpb w ≤ 8 := by rcases h with rfl | rfl | rfl | rfl <;> decide
 exact Nat.le_trans (Nat.mul_le_mul hn h1) (by decide)
theorem two_putB {x : Nat} (h : x < 65536) : putB x 2 = two x := by
 have h1 : putB x 2 = [UInt8.ofNat (x / 256 % 256), UInt8.ofNat (x % 256)] := rfl
 rw [h1, two, Nat.mod_eq_of_lt (show x / 256 < 256 by omega)]
section
variable {G : World} {M : Mem} {L : Own}
theorem Of_spec {A : Option Addr} {n c w : Nat} (hw : isW w) {bs : List UInt8} (hb : Bytes M A n c bs) (hn : n ≤ 1000000000) :
  Con Tryz.prog 269 #[.slice A n c, .int .i64 (w : Int)] G M L (fun v M' L' => ∃ A' c' E, v = .slice A' (n * dpb w) c' ∧ OwnRow 3 1 A' (n * dpb w) c' (intsL (digs w bs (n * dpb w))) E ∧ L' = E ++ L) noPanic := by
 obtain ⟨hd1, hd8⟩ := dpb_pos hw
 have hnd := dpb_le hw n hn
 refine enterM (args := [_, _]) (fn := Tryz.f269) ⟨Tryz.func269, rfl, by kernel_rfl, by kernel_rfl⟩ 19 rfl <| zr <| as0 rfl <| zq <| zr2 <| mvI rfl <| zca rfl (dMay_spec _) ?_
 rintro _ M1 _ hM1 ⟨rfl, rfl⟩
 rw [isW_mem hw]
 refine tl_y rfl (y_not rfl) <| zq <| x_false rfl (rfl) <| x_skip <| .then_normal <| .s2 0 1 rfl rfl <| zr <| tl_e rfl <| e_alloc <| fun b1 => zq <| zr2 <| mvS rfl <| mvI rfl <| zca rfl (each_spec _) ?_
 rintro _ _ _ _ ⟨rfl, x0, x1, rfl, rfl⟩
 refine zq <| .s2 5 12 rfl rfl <| x_block <| x_rangeN rfl rfl <| fun l r0 fn tm lps las lbd hps has hbd htm => ?_
 obtain ⟨xs, hxs⟩ : ∃ xs : LoopState → Option Code → Option Addr → Nat → Nat → Own → Own, ∀ st pd A k c E, xs st pd A k c E = lrec l st pd fn tm lps las lbd r0 :: (r0, .deferred (some [])) :: (b1, .cells #[.slice A k c] 68 (0, 0)) :: (E ++ L) := ⟨_, fun _ _ _ _ _ _ => rfl⟩
 refine Con.postD (Con.to ((x0, .cells #[.slice A n c] 22 (0, 0)) :: (x1, .cells #[.int .i64 (w : Int)] 3 (0, 0)) :: xs .ready none none 0 0 []) (by rw [hxs, List.nil_append]; infer_instance) (each1_spec hw (hb.mono hM1) (by omega) (Inv := fun k M2 X2 => ∃ (A6 : Option Addr) (c6 : Nat) (E6 : Own), Le M1 M2 ∧ OwnRow 3 1 A6 k c6 (intsL (digs w bs k)) E6 ∧ X2 = xs .ready none A6 k c6 E6) (Dn := fun _ _ => False) ?_ ⟨none, 0, [], Le.refl _, .nil, rfl⟩)) ?_
 ·
  rintro k M2 X2 hk2 hM2 ⟨A6, c6, E6, hM12, hE6, rfl⟩
  rw [hxs]
  subst hps
  subst has
  subst hbd
  refine ycon_body htm rfl (by kernel_rfl) <| fun R1 => ?_
  simp only [List.cons_append, List.append_assoc]
  refine x_region <| asI rfl <| tl_nil <| .asg (by kernel_rfl) <| x_block <| x_region <| tLd rfl rfl <| mvI rfl <| tl_e rfl <| e_buildSlice rfl (by decide) <| fun b7 => .pub b7 iI <| fun M5 hM5 hb7 => .bringE E6 iI <| tl_e rfl <| e_append (by decide) rfl rfl hE6 (.row (Row.whole (s := 1) hb7 rfl (by omega))) rfl (by omega) (by omega) <| fun A9 c9 E9 hE9 => ?_
  rw [show intsL (digs w bs k) ++ [Value.int .i64 ((digAt w bs k : Nat) : Int)] = intsL (digs w bs (k + 1)) by rw [digs_succ, intsL, intsL, List.map_append]; rfl] at hE9
  refine tl_e rfl <| e_sT rfl rfl <| tl_nil (.block_normal (.on ((r0, .deferred (some [])) :: (b1, .cells #[.slice A9 (k + 1) c9] 68 (0, 0)) :: (E9 ++ (L ++ R1))) iI iI (X := (r0, .deferred (some [])) :: (b1, .cells #[.slice A9 (k + 1) c9] 68 (0, 0)) :: (E9 ++ L)) (by simp) hM5 ⟨A9, c9, E9, hM12.trans hM5, hE9, (hxs _ _ _ _ _ _).symm⟩))
 rintro v M3 L3 hM3 ⟨X', rfl, hX⟩
 rcases hX with ⟨A6, c6, E6, hM13, hE6, rfl⟩ | hX
 ·
  refine ⟨lrec l .ready none fn tm lps las lbd r0 :: (r0, .deferred (some [])) :: (b1, .cells #[.slice A6 (n * dpb w) c6] 68 (0, 0)) :: (E6 ++ L), by rw [hxs]; infer_instance, .ready, none, _, by simp, rfl, ?_⟩
  refine .block_normal <| .then_normal <| .s1 5 rfl <| zr <| tLd rfl rfl <| asS rfl <| zq <| x_ret (.retM1 (r := r0) (L1 := E6 ++ L) iI (rv1 rfl (rc_tmp (by rfl))) iI (hM1.trans hM13) ⟨A6, c6, E6, rfl, hE6, rfl⟩)
 exact hX.elim
theorem Lack_spec {A : Option Addr} {n c w : Nat} (hw : isW w) {bs : List UInt8} (hb : Bytes M A n c bs) (hn : n ≤ 1000000000) :
  Con Tryz.prog 270 #[.slice A n c, .int .i64 (w : Int)] G M L (fun v M' L' => L = L' ∧ v = .int .i64 ((lackN w bs (n * dpb w) : Nat) : Int)) noPanic := by
 obtain ⟨hd1, hd8⟩ := dpb_pos hw
 have hnd := dpb_le hw n hn
 have hsh := shl1_w hw
 have h2w : 2 ≤ 2 ^ w ∧ 2 ^ w ≤ 256 := pw2_w hw
 refine enterM (args := [_, _]) (fn := Tryz.f270) ⟨Tryz.func270, rfl, by kernel_rfl, by kernel_rfl⟩ 22 rfl <| zr <| tl_e rfl <| e_box rfl <| fun b1 => as0 rfl <| zq <| zr2 <| tLd rfl rfl <| zca rfl (dMay_spec _) ?_
 rintro _ M1 _ hM1 ⟨rfl, rfl⟩
 rw [isW_mem hw]
 refine tl_y rfl (y_not rfl) <| zq <| .s3 0 3 9 rfl rfl rfl <| x_false rfl (rfl) <| x_skip <| .then_normal <| zr <| tl_e rfl <| e_alloc <| fun b2 => tl_e rfl <| e_sT rfl rfl <| zq <| zr2 <| mvS rfl <| tLd rfl rfl <| zca rfl (each_spec _) ?_
 rintro _ _ _ _ ⟨rfl, x0, x1, rfl, rfl⟩
 refine zq <| .s3 3 5 12 rfl rfl rfl <| x_block <| x_rangeN rfl rfl <| fun l r0 fn tm lps las lbd hps has hbd htm => ?_
 obtain ⟨xs, hxs⟩ : ∃ xs : LoopState → Option Code → Nat → Own, ∀ st pd k, xs st pd k = lrec l st pd fn tm lps las lbd r0 :: (r0, .deferred (some [])) :: (b2, .cells #[.int .i64 ((lackN w bs k : Nat) : Int)] 3 (0, 0)) :: (b1, .cells #[.int .i64 (w : Int)] 3 (0, 0)) :: L := ⟨_, fun _ _ _ => rfl⟩
 refine Con.postD (Con.to ((x0, .cells #[.slice A n c] 22 (0, 0)) :: (x1, .cells #[.int .i64 (w : Int)] 3 (0, 0)) :: xs .ready none 0) (by rw [hxs, show ((lackN w bs 0 : Nat) : Int) = 0 by simp [lackN, digs]]; infer_instance) (each1_spec hw (hb.mono hM1) (by omega) (Inv := fun k M2 X2 => M1 = M2 ∧ xs .ready none k = X2) (Dn := fun _ _ => False) ?_ ⟨rfl, rfl⟩)) ?_
 ·
  rintro k _ _ hk2 hM2 ⟨rfl, rfl⟩
  rw [hxs]
  have hlk := lackN_le w bs k
  have hlk2 : k * (2 ^ w - 1) ≤ 8000000000 * 255 := Nat.mul_le_mul (by omega) (by omega)
  have hdl := digAt_lt w bs k
  have hls := lackN_succ w bs k
  subst hps
  subst has
  subst hbd
  refine ycon_body htm rfl (by kernel_rfl) <| fun R1 => ?_
  simp only [List.cons_append, List.append_assoc]
  refine x_region <| asI rfl <| .bring l iI <| tl_nil <| .asg (by kernel_rfl) <| x_block <| x_draw 7 hmix rfl <| pLd 0 rfl rfl rfl <| pLd 1 rfl rfl rfl <| zp 2 rfl rfl (y_shl rfl rfl (by omega)) ?_
  rw [hsh]
  refine zp 3 rfl rfl (y_subI rfl rfl (by omega)) <| pmI 4 rfl rfl <| zp 5 rfl rfl (y_subI rfl rfl (by omega)) <| zp 6 rfl rfl (y_addI rfl rfl (by omega)) ?_
  rw [show ((lackN w bs k : Nat) : Int) + (((2 ^ w : Nat) : Int) - 1 - ((digAt w bs k : Nat) : Int)) = ((lackN w bs (k + 1) : Nat) : Int) by omega]
  refine zt 7 rfl rfl <| e_sT rfl rfl <| zz (.block_normal (.on ((r0, .deferred (some [])) :: (b2, .cells #[.int .i64 ((lackN w bs (k + 1) : Nat) : Int)] 3 (0, 0)) :: (b1, .cells #[.int .i64 (w : Int)] 3 (0, 0)) :: (L ++ R1)) iI iI (X := (r0, .deferred (some [])) :: (b2, .cells #[.int .i64 ((lackN w bs (k + 1) : Nat) : Int)] 3 (0, 0)) :: (b1, .cells #[.int .i64 (w : Int)] 3 (0, 0)) :: L) (by simp) lR ⟨rfl, hxs _ _ _⟩))
 rintro v M3 L3 hM3 ⟨X', rfl, hX⟩
 rcases hX with ⟨rfl, rfl⟩ | hX
 ·
  refine ⟨lrec l .ready none fn tm lps las lbd r0 :: (r0, .deferred (some [])) :: (b2, .cells #[.int .i64 ((lackN w bs (n * dpb w) : Nat) : Int)] 3 (0, 0)) :: (b1, .cells #[.int .i64 (w : Int)] 3 (0, 0)) :: L, by rw [hxs]; infer_instance, .ready, none, _, by simp, rfl, ?_⟩
  refine .block_normal <| .then_normal <| .s1 5 rfl <| zr <| tLd rfl rfl <| asI rfl <| zq <| x_ret (.retM1 (r := r0) (L1 := L) iI (rv1 rfl (rc_tmp (by rfl))) iI hM1 ⟨rfl, rfl⟩)
 exact hX.elim
theorem All7_spec {A : Option Addr} {n c w : Nat} (hN : isN n) (hw : isW w) {bs : List UInt8} (hb : Bytes M A n c bs) :
  Con Tryz.prog 244 #[.slice A n c, .int .i64 (w : Int)] G M L (fun v M' L' => L = L' ∧ ∃ A' c', v = .slice A' (shU n w + shV n w) c' ∧ Row M' 1 A' (shU n w + shV n w) c' (intsL (allD n w bs))) noPanic := by
 obtain ⟨h1, h2, h3, h4, h5, h6, h7, h8, h9, h10⟩ := shape_fact hN hw
 obtain ⟨k1, k2, k3, k4⟩ := lack_fits hN hw
 have hnb : n ≤ 32 := by rcases hN with rfl | rfl <;> omega
 have hlx := lackX_lt hN hw bs
 have hll := lackN_le w bs (n * dpb w)
 refine zfn Tryz.func244 rfl 36 rfl <| zr <| as0 rfl <| zq <| zr <| mvS rfl <| tLen rfl <| mvI rfl <| zca rfl (Shape_spec hN hw) ?_
 rintro _ M1 _ hM1 ⟨rfl, rfl⟩
 refine mvU rfl <| zx rfl <| zx rfl <| zx rfl <| asI rfl <| asI rfl <| asI rfl <| zq <| .s5 0 1 5 6 7 rfl rfl rfl rfl rfl <| zr2 <| mvI rfl <| tl_y rfl (y_eql rfl rfl) <| zq <| x_false rfl (decide_eq_false (by omega)) <| x_skip <| .then_normal <| zr <| mvS rfl <| mvI rfl ?_
 refine zca rfl (Lack_spec hw (hb.mono hM1) (by omega)) ?_
 rintro _ M2 _ hM2 ⟨rfl, rfl⟩
 obtain ⟨y, hy⟩ : ∃ y : UInt64, y.toNat = lackN w bs (n * dpb w) := ⟨UInt64.ofNat (lackN w bs (n * dpb w)), by
  rw [UInt64.toNat_ofNat', Nat.mod_eq_of_lt]
  rw [← k2] at hll; omega⟩
 have hyx : (shl64 y (shS n w)).toNat = lackX n w bs := by
  rw [shl64, UInt64.toNat_ofNat', hy, ← lackX, Nat.mod_eq_of_lt (by omega)]
 refine tl_y rfl (y_convE (b := ((y.toNat : Nat) : Int)) rfl (by rw [hy, wrapU64, ← k2] at *; omega)) <| mvI rfl <| tl_y rfl (y_shl64 rfl rfl) <| zca rfl (Put_spec (shl64 y (shS n w)) 2) ?_
 rintro _ M3 _ hM3 ⟨rfl, hp⟩
 rw [if_pos (by omega)] at hp
 obtain ⟨A3, c3, rfl, hA3⟩ := hp
 rw [show (2 : Int).toNat = 2 from rfl, hyx, two_putB hlx] at hA3
 refine mvI rfl <| zca rfl (Of_spec hw (n := 2) hA3 (by omega)) ?_
 rintro _ M4 _ hM4 ⟨A4, c4, E4, rfl, hE4, rfl⟩
 refine .pubRow hE4 <| fun M5 hM5 hr5 => ?_
 have hd := hM1.trans (hM2.trans (hM3.trans (hM4.trans hM5)))
 have hc4 := hr5.le
 refine asS rfl <| zq <| .s4 0 1 6 8 rfl rfl rfl rfl <| x_seq ?_
 have he : Le M5 M5 := Le.refl _
 refine x_draw 7 hmix rfl <| pmS 0 rfl rfl <| pmI 1 rfl rfl <| pmS 3 rfl rfl <| pmI 4 rfl rfl <| pmI 5 rfl rfl <| zp 6 rfl rfl (y_slice3 rfl rfl rfl (by omega) (by omega)) ?_
 refine ze 2 rfl rfl <| e_call' rfl (Of_spec hw (hb.mono hd) (by omega)) ?_
 rintro _ M6 _ hM6 ⟨A6, c6, E6, rfl, hE6, rfl⟩
 refine kp ?_
 refine zt 7 rfl rfl <| e_append (by decide) rfl rfl hE6 (.row (Row.slice (l := 0) (h := shV n w) (m := shV n w) (hr5.mono hM6) (by omega) (by omega) (by omega) (by omega))) (intsL_one' _ _ _) (by omega) (by omega) <| fun A9 c9 E9 hE9 => ?_
 rw [allD_vals n w _ bs rfl] at hE9
 refine .pubRow hE9 <| fun M7 hM7 hr7 => paS 8 rfl rfl <| zz <| .then_normal <| .s1 4 rfl <| x_ret (ret1 rfl rfl (hd.trans (hM6.trans hM7)) ⟨rfl, A9, c9, by rw [k4]; rfl, by rw [k4]; exact hr7⟩)
end
end Go.Proofs.YtplkoemjffplcaaGreatDoor
