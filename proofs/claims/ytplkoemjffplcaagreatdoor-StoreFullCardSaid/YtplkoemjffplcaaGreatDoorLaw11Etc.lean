/-
Contracts of functions, each proved by a walk through its code.
-/
import Derived.Test.YtplkoemjffplcaaGreatDoorTreePureEtc
import Derived.Test.YtplkoemjffplcaaGreatDoorOncePureEtc
import Derived.Test.YtplkoemjffplcaaGreatDoorShaEtc
import Derived.Test.YtplkoemjffplcaaGreatDoorEngWEtc
set_option linter.all false
namespace Go.Proofs.YtplkoemjffplcaaGreatDoor
open Go Go.Eng
theorem cPart_len {kind n : Int} (h : okC kind n) {name : List UInt8} (hn : name.length = 16) (q d : Nat) (text : List UInt8) : ((cPart kind n name q d text).length : Int) = n := by
 rw [cPart, if_pos hn, cSum, if_pos h, csum_length h _ (sha_length _)]
 rcases h.2 with h | h <;> subst h <;> rfl
theorem lvl_each {t : TreeV} (h : okC t.kind t.n) {name : List UInt8} (hn : name.length = 16) (keys : List (List UInt8)) : ∀ j, ∀ b ∈ lvl t name keys j, (b.length : Int) = t.n
 | 0, b, hb => by
  rw [lvl, leavesB, List.mem_map] at hb
  obtain ⟨q, _, rfl⟩ := hb
  exact cPart_len h hn _ _ _
 | j + 1, b, hb => by
  rw [lvl, nextB, List.mem_map] at hb
  obtain ⟨q, _, rfl⟩ := hb
  exact cPart_len h hn _ _ _
theorem lvl_getLen {t : TreeV} (h : okC t.kind t.n) {name : List UInt8} (hn : name.length = 16) {keys : List (List UInt8)} {H : Nat} (hk : keys.length = pw2 H) {j i : Nat} (hj : j ≤ H) (hi : i < pw2 (H - j)) : (((lvl t name keys j).getD i []).length : Int) = t.n :=
 lvl_each h hn keys j _ (getD_mem _ _ _ (by rw [lvl_len t name keys hk j hj]; exact hi))
theorem wayB_get (t : TreeV) (name : List UInt8) (keys : List (List UInt8)) (q : Nat) {k j : Nat} (h : j < k) : (wayB t name keys q k).getD j [] = (lvl t name keys j).getD (sib (q / pw2 j)) [] := by
 rw [List.getD_eq_getElem?_getD, wayB, List.getElem?_map, List.getElem?_range h]; rfl
theorem add_div_pw2 {H j q : Nat} (hj : j ≤ H) : (pw2 H + q) / pw2 j = pw2 (H - j) + q / pw2 j := by
 rw [pw2_mul hj, Nat.mul_add_div (pw2_pos j)]
theorem leads {t : TreeV} {H : Nat} (hH : t.h = (H : Int)) (name : List UInt8) {keys : List (List UInt8)} (hk : keys.length = pw2 H) {q : Nat} (hq : q < pw2 H) : ∀ j, j ≤ H →
  clX t name (wayB t name keys q H) (pw2 H + q) (leafB t name q (keys.getD q [])) j = (lvl t name keys j).getD (q / pw2 j) []
 | 0, _ => by
  rw [clX, lvl, show pw2 0 = 1 from rfl, Nat.div_one, leavesB_get _ _ _ (by omega)]
 | j + 1, hj => by
  have hlt : j < H := hj
  have hhf := (pw2_half hlt).2
  have hl := lvl_len t name keys hk j (by omega)
  have hz := div_lt (h := j + 1) hj hq
  rw [clX, leads hH name hk hq j (by omega), wayB_get _ _ _ _ hlt, lvl, nextB_get _ _ _ (by omega), add_div_pw2 (Nat.le_of_lt hlt), add_div_pw2 hj, hl, ← div_pw2]
  rw [← div_pw2] at hz
  generalize q / pw2 j = z at hz
  rw [show pw2 (H - j) / 2 = pw2 (H - (j + 1)) by omega]
  unfold sib
  by_cases hodd : z % 2 = 1
  ·
   rw [if_pos (by omega), if_pos hodd, show z - 1 = 2 * (z / 2) by omega]
   conv => lhs; rw [show z = 2 * (z / 2) + 1 by omega]
   congr 3 <;> omega
  rw [if_neg (by omega), if_neg hodd]
  conv => lhs; rw [show z = 2 * (z / 2) by omega]
  congr 3 <;> omega
theorem way_ok {t : TreeV} {nl : Nat} (hs : okS t nl) {name : List UInt8} (hn : name.length = 16) {keys : List (List UInt8)} {H : Nat} (hH : t.h = (H : Int)) (hk : keys.length = pw2 H) {q : Nat} (hq : q < pw2 H) : okW t nl q (wayB t name keys q H) := by
 obtain ⟨hokc, H', hH', _, _, hlv⟩ := okS_facts hs
 obtain rfl : H = H' := by omega
 refine ⟨hs, by rw [hlv]; exact hq, by rw [wayB_len]; exact hH.symm, fun b hb => ?_⟩
 rw [wayB, List.mem_map] at hb
 obtain ⟨j, hj, rfl⟩ := hb
 have hj' := List.mem_range.1 hj
 exact lvl_getLen hokc hn hk (Nat.le_of_lt hj') (sib_lt hj' hq)
theorem climb_root {t : TreeV} {nl : Nat} (hs : okS t nl) {name : List UInt8} (hn : name.length = nl) {keys : List (List UInt8)} {H : Nat} (hH : t.h = (H : Int)) (hk : keys.length = pw2 H) {q : Nat} (hq : q < pw2 H) : climbB t name q (keys.getD q []) (wayB t name keys q H) = rootB t name keys := by
 have h16 := hs.2.2
 rw [climbB, if_pos (by rw [hn]; exact way_ok hs (by omega) hH hk hq), hH, Int.toNat_natCast, wayB_len, leads hH name hk hq H (Nat.le_refl _), rootB, hH, Int.toNat_natCast, Nat.div_eq_of_lt hq]
theorem root_len {t : TreeV} {nl : Nat} (hs : okS t nl) {name : List UInt8} (hn : name.length = nl) {keys : List (List UInt8)} {H : Nat} (hH : t.h = (H : Int)) (hk : keys.length = pw2 H) : ((rootB t name keys).length : Int) = t.n := by
 have h16 := hs.2.2
 rw [rootB, hH, Int.toNat_natCast]
 exact lvl_getLen (okS_facts hs).1 (by omega) hk (Nat.le_refl _) (by rw [Nat.sub_self]; exact pw2_pos 0)
section
variable {G : World} {M : Mem} {L : Own}
end
abbrev pcells (o : OtsV) (t : TreeV) : List Value := [.int .u32 (o.code.toNat : Int), .int .i64 o.kind, .int .i64 o.n, .int .i64 o.w, .int .i64 o.p, .int .i64 o.shift, .int .u32 (t.code.toNat : Int), .int .i64 t.kind, .int .i64 t.n, .int .i64 t.h]
section
variable {G : World} {M : Mem} {L : Own}
def lwrongv (e : Int) : Value := .iface 248 (.agg #[.int .i64 e])
def lwrong (e : Int) : List PanicEntry := [{ v := lwrongv e, recovered := false }]
def hwrongv (e : Int) : Value := .iface 180 (.agg #[.int .i64 e])
def hwrong (e : Int) : List PanicEntry := [{ v := hwrongv e, recovered := false }]
theorem lmust_spec (t : Bool) (e : Int) :
  Con Tryz.prog 127 #[.bool t, .int .i64 e] G M L (fun v M' L' => M = M' ∧ L = L' ∧ t = true) (fun ch M' L' => M = M' ∧ L = L' ∧ t = false ∧ ch = lwrong e) := by
 refine zfn Tryz.func127 rfl 9 rfl <| zr <| mvB rfl <| tl_y rfl (y_not rfl) <| zq <| x_condb rfl (fun hc1 => ?_) (fun hc1 => ?_)
 ·
  refine x_region <| mvI rfl <| tl_y rfl (y_build rfl) <| tl_y rfl (y_makeIface rfl (by intro _ h; cases h)) <| tl_e rfl (e_panic rfl (.ret lR ⟨rfl, rfl, by simpa using hc1, rfl⟩))
 refine x_skip (end0 rfl lR ⟨rfl, rfl, by simpa using hc1⟩)
theorem hmust_spec (t : Bool) (e : Int) :
  Con Tryz.prog 49 #[.bool t, .int .i64 e] G M L (fun v M' L' => M = M' ∧ L = L' ∧ t = true) (fun ch M' L' => M = M' ∧ L = L' ∧ t = false ∧ ch = hwrong e) := by
 refine zfn Tryz.func49 rfl 9 rfl <| zr <| mvB rfl <| tl_y rfl (y_not rfl) <| zq <| x_condb rfl (fun hc1 => ?_) (fun hc1 => ?_)
 ·
  refine x_region <| mvI rfl <| tl_y rfl (y_build rfl) <| tl_y rfl (y_makeIface rfl (by intro _ h; cases h)) <| tl_e rfl (e_panic rfl (.ret lR ⟨rfl, rfl, by simpa using hc1, rfl⟩))
 refine x_skip (end0 rfl lR ⟨rfl, rfl, by simpa using hc1⟩)
theorem caughtP1_ret {b c : Nat} {x : Int} {cs : List Value} : ConD Tryz.prog 237 #[.pointer (some ⟨b, 0, none⟩), .pointer (some ⟨c, 0, none⟩)] .returning G M ((c, .cells #[.int .i64 x] 25 (0, 0)) :: (b, .cells cs.toArray 202 (0, 0)) :: L) (fun u' M' L' => u' = .returning ∧ M' = M ∧ L' = (c, .cells #[.int .i64 x] 25 (0, 0)) :: (b, .cells cs.toArray 202 (0, 0)) :: L) := by
 refine enterRec (args := [_, _]) (fn := Tryz.f237) ⟨Tryz.func237, rfl, by kernel_rfl, by kernel_rfl⟩ 15 rfl rfl <| x_block <| zr <| tl_y rfl (y_eqNilIface rfl rfl) <| zq <| x_true rfl (rfl) <| x_region <| as0 rfl <| tl_nil (.block_normal (.rec_normal lR ⟨rfl, rfl, rfl⟩))
theorem caughtP1_wrong {b c : Nat} {x e : Int} : ConD Tryz.prog 237 #[.pointer (some ⟨b, 0, none⟩), .pointer (some ⟨c, 0, none⟩)] (.panicking (lwrong e)) G M ((c, .cells #[.int .i64 x] 25 (0, 0)) :: (b, .cells #[.int .u32 0, .int .i64 0, .int .i64 0, .int .i64 0, .int .i64 0, .int .i64 0, .int .u32 0, .int .i64 0, .int .i64 0, .int .i64 0] 202 (0, 0)) :: L)
  (fun u' M' L' => u' = .panicking [{ v := lwrongv e, recovered := true }] ∧ M' = M ∧ L' = (c, .cells #[.int .i64 e] 25 (0, 0)) :: (b, .cells #[.int .u32 0, .int .i64 0, .int .i64 0, .int .i64 0, .int .i64 0, .int .i64 0, .int .u32 0, .int .i64 0, .int .i64 0, .int .i64 0] 202 (0, 0)) :: L) := by
 refine enterRec (args := [_, _]) (fn := Tryz.f237) ⟨Tryz.func237, rfl, by kernel_rfl, by kernel_rfl⟩ 15 rfl rfl <| x_block <| zr <| tl_y rfl (y_eqIfaceNil rfl rfl) <| zq <| x_false rfl (rfl) <| zr <| tl_y rfl (y_assertOk rfl (by intro _ h; cases h)) <| zx rfl <| zx rfl <| zq <| x_true rfl (rfl) <| zr <| tl_e rfl <| e_alloc <| fun b7 => tl_e rfl <| e_sT rfl rfl <| zq <| .s3 0 1 3 rfl rfl rfl <| zr <| tl_e rfl <| e_alloc <| fun b8 => zq <| x_draw0 4 ((b7, .cells #[.int .i64 e] 248 (0, 0)) :: (b8, .cells #[.int .u32 0, .int .i64 0, .int .i64 0, .int .i64 0, .int .i64 0, .int .i64 0, .int .u32 0, .int .i64 0, .int .i64 0, .int .i64 0] 202 (0, 0)) :: []) Keeps.mem hmix rfl ?_
 refine zy 0 rfl rfl (y_lg rfl rfl) <| pFa 1 rfl rfl <| pLd 2 rfl rfl rfl <| ze 3 rfl rfl <| e_sT rfl rfl <| kp ?_
 refine zt 4 rfl rfl <| e_sT rfl rfl <| zz (.block_normal (.dropTo ((c, .cells #[.int .i64 e] 25 (0, 0)) :: (b, .cells #[.int .u32 0, .int .i64 0, .int .i64 0, .int .i64 0, .int .i64 0, .int .i64 0, .int .u32 0, .int .i64 0, .int .i64 0, .int .i64 0] 202 (0, 0)) :: L) iI (.rec_normal lR ⟨rfl, rfl, rfl⟩)))
theorem caughtP_spec {wf : FuncId} {first cap : List Value} {K : OtsV → TreeV → Mem → Prop} {Kp : Int → Prop}
  (hw : ∀ p q, Con Tryz.prog wf (first ++ [] ++ cap).toArray G M (p :: q :: L) (fun v M' L' => L' = p :: q :: L ∧ ∃ (o : OtsV) (t : TreeV), v = .agg (List.toArray (pcells o t)) ∧ K o t M') (fun ch M' L' => L' = p :: q :: L ∧ ∃ e, Kp e ∧ ch = lwrong e)) :
  Con Tryz.prog 185 #[.func (.func wf) first.toArray cap.toArray] G M L (fun v M' L' => L' = L ∧ ((∃ (o : OtsV) (t : TreeV), v = .tuple #[.agg (List.toArray (pcells o t)), .int .i64 0] ∧ K o t M') ∨ (∃ e, v = .tuple #[.agg #[.int .u32 0, .int .i64 0, .int .i64 0, .int .i64 0, .int .i64 0, .int .i64 0, .int .u32 0, .int .i64 0, .int .i64 0, .int .i64 0], .int .i64 e] ∧ Kp e))) noPanic := by
 refine enterD (args := [_]) (fn := Tryz.f185) ⟨Tryz.func185, rfl, by kernel_rfl, by kernel_rfl⟩ 7 rfl <| zr <| tl_e rfl <| e_alloc <| fun b1 => tl_e rfl <| e_alloc <| fun b2 => zq <| zr <| tl_y rfl (y_makeFunc rfl rfl) <| tl_e rfl <| e_defer rfl rfl rfl <| zq <| zr <| mvF rfl <| tl_e rfl (e_callv rfl rfl (hw _ _) (by
  rintro _ M1 _ hM1 ⟨rfl, e, hr, rfl⟩
  refine .retD (cap := [_, _]) (args := []) caughtP1_wrong ?_
  rintro _ M2 _ hM2 ⟨rfl, rfl, rfl⟩
  exact .inl ⟨rfl, _, L, rv2 rfl (rc_cellAgg (by rfl) rfl (.own iI iI)) (rc_cell (by rfl) rfl (.own iI iI)), iI, hM1, rfl, .inr ⟨e, rfl, hr⟩⟩) ?_)
 rintro _ M1 _ hM1 ⟨rfl, o, t, rfl, hk⟩
 refine tl_e rfl <| e_sT rfl rfl <| tl_e rfl <| e_sT rfl rfl <| zq <| .s2 2 3 rfl rfl <| x_ret <| .retD (cap := [_, _]) (args := []) (caughtP1_ret (cs := pcells o t)) ?_
 rintro _ M2 _ hM2 ⟨rfl, rfl, rfl⟩
 exact .inl ⟨rfl, _, L, rv2 rfl (rc_cellAgg (by rfl) rfl (.own iI iI)) (rc_cell (by rfl) rfl (.own iI iI)), iI, hM1, rfl, .inl ⟨o, t, rfl, hk⟩⟩
theorem caughtU1_ret {b c : Nat} {x : Int} {cs : List Value} : ConD Tryz.prog 136 #[.pointer (some ⟨b, 0, none⟩), .pointer (some ⟨c, 0, none⟩)] .returning G M ((c, .cells #[.int .i64 x] 25 (0, 0)) :: (b, .cells cs.toArray 38 (0, 0)) :: L) (fun u' M' L' => u' = .returning ∧ M' = M ∧ L' = (c, .cells #[.int .i64 x] 25 (0, 0)) :: (b, .cells cs.toArray 38 (0, 0)) :: L) := by
 refine enterRec (args := [_, _]) (fn := Tryz.f136) ⟨Tryz.func136, rfl, by kernel_rfl, by kernel_rfl⟩ 15 rfl rfl <| x_block <| zr <| tl_y rfl (y_eqNilIface rfl rfl) <| zq <| x_true rfl (rfl) <| x_region <| as0 rfl <| tl_nil (.block_normal (.rec_normal lR ⟨rfl, rfl, rfl⟩))
theorem caughtU1_wrong {b c : Nat} {x e : Int} : ConD Tryz.prog 136 #[.pointer (some ⟨b, 0, none⟩), .pointer (some ⟨c, 0, none⟩)] (.panicking (hwrong e)) G M ((c, .cells #[.int .i64 x] 25 (0, 0)) :: (b, .cells #[.int .u64 0] 38 (0, 0)) :: L)
  (fun u' M' L' => u' = .panicking [{ v := hwrongv e, recovered := true }] ∧ M' = M ∧ L' = (c, .cells #[.int .i64 e] 25 (0, 0)) :: (b, .cells #[.int .u64 0] 38 (0, 0)) :: L) := by
 refine enterRec (args := [_, _]) (fn := Tryz.f136) ⟨Tryz.func136, rfl, by kernel_rfl, by kernel_rfl⟩ 15 rfl rfl <| x_block <| zr <| tl_y rfl (y_eqIfaceNil rfl rfl) <| zq <| x_false rfl (rfl) <| zr <| tl_y rfl (y_assertOk rfl (by intro _ h; cases h)) <| zx rfl <| zx rfl <| zq <| x_true rfl (rfl) <| zr <| tl_e rfl <| e_alloc <| fun b7 => tl_e rfl <| e_sT rfl rfl <| zq <| .s3 0 1 3 rfl rfl rfl <| zr <| as0 rfl <| zq <| x_draw0 4 ((b7, .cells #[.int .i64 e] 180 (0, 0)) :: []) Keeps.mem hmix rfl ?_
 refine pmI 0 rfl rfl <| pFa 1 rfl rfl <| pLd 2 rfl rfl rfl <| ze 3 rfl rfl <| e_sT rfl rfl <| kp ?_
 refine zt 4 rfl rfl <| e_sT rfl rfl <| zz (.block_normal (.dropTo ((c, .cells #[.int .i64 e] 25 (0, 0)) :: (b, .cells #[.int .u64 0] 38 (0, 0)) :: L) iI (.rec_normal lR ⟨rfl, rfl, rfl⟩)))
theorem caughtU_spec {wf : FuncId} {first cap : List Value} {K : Int → Mem → Prop} {Kp : Int → Prop}
  (hw : ∀ p q, Con Tryz.prog wf (first ++ [] ++ cap).toArray G M (p :: q :: L) (fun v M' L' => L' = p :: q :: L ∧ ∃ x : Int, v = .int .u64 x ∧ K x M') (fun ch M' L' => L' = p :: q :: L ∧ ∃ e, Kp e ∧ ch = hwrong e)) :
  Con Tryz.prog 88 #[.func (.func wf) first.toArray cap.toArray] G M L (fun v M' L' => L' = L ∧ ((∃ x : Int, v = .tuple #[.int .u64 x, .int .i64 0] ∧ K x M') ∨ (∃ e, v = .tuple #[.int .u64 0, .int .i64 e] ∧ Kp e))) noPanic := by
 refine enterD (args := [_]) (fn := Tryz.f88) ⟨Tryz.func88, rfl, by kernel_rfl, by kernel_rfl⟩ 7 rfl <| zr <| tl_e rfl <| e_alloc <| fun b1 => tl_e rfl <| e_alloc <| fun b2 => zq <| zr <| tl_y rfl (y_makeFunc rfl rfl) <| tl_e rfl <| e_defer rfl rfl rfl <| zq <| zr <| mvF rfl <| tl_e rfl (e_callv rfl rfl (hw _ _) (by
  rintro _ M1 _ hM1 ⟨rfl, e, hr, rfl⟩
  refine .retD (cap := [_, _]) (args := []) caughtU1_wrong ?_
  rintro _ M2 _ hM2 ⟨rfl, rfl, rfl⟩
  exact .inl ⟨rfl, _, L, rv2 rfl (rc_cell (by rfl) rfl (.own iI iI)) (rc_cell (by rfl) rfl (.own iI iI)), iI, hM1, rfl, .inr ⟨e, rfl, hr⟩⟩) ?_)
 rintro _ M1 _ hM1 ⟨rfl, x, rfl, hk⟩
 refine tl_e rfl <| e_sT rfl rfl <| tl_e rfl <| e_sT rfl rfl <| zq <| .s2 2 3 rfl rfl <| x_ret <| .retD (cap := [_, _]) (args := []) (caughtU1_ret (cs := [.int .u64 x])) ?_
 rintro _ M2 _ hM2 ⟨rfl, rfl, rfl⟩
 exact .inl ⟨rfl, _, L, rv2 rfl (rc_cell (by rfl) rfl (.own iI iI)) (rc_cell (by rfl) rfl (.own iI iI)), iI, hM1, rfl, .inl ⟨x, rfl, hk⟩⟩
end
structure PairV where
 o : UInt32
 t : UInt32
deriving DecidableEq
abbrev PairV.cells (p : PairV) : List Value := [.int .u32 (p.o.toNat : Int), .int .u32 (p.t.toNat : Int)]
def okP (p : PairV) : Prop := otsE p.o = 0 ∧ treeE p.t = 0 ∧ (otsV p.o).kind = (treeV p.t).kind ∧ (otsV p.o).n = (treeV p.t).n
instance {p : PairV} : Decidable (okP p) := inferInstanceAs (Decidable (_ ∧ _))
structure HsG (M : Mem) : Prop where
 o : SetG M
 t : SetT M
theorem HsG.mono {M M' : Mem} (h : HsG M) (hle : Le M M') : HsG M' := ⟨h.o.mono hle, h.t.mono hle⟩
section
variable {G : World} {M : Mem} {L : Own}
theorem Fit_spec (o : OtsV) (t : TreeV) :
  Con Tryz.prog 169 #[.agg (List.toArray o.cells), .agg (List.toArray t.cells)] G M L (fun v M' L' => M = M' ∧ L = L' ∧ v = .bool (decide (o.kind = t.kind ∧ o.n = t.n))) noPanic := by
 refine zfn Tryz.func169 rfl 17 rfl <| zr <| tl_e rfl <| e_box rfl <| fun b1 => tl_e rfl <| e_box rfl <| fun b2 => as0 rfl <| zq <| zr <| tFa rfl <| tLd rfl rfl <| tFa rfl <| tLd rfl rfl <| tl_y rfl (y_eql rfl rfl) <| mvB rfl <| tl_cases (s := 10) rfl (fun hk1 => ?_) (fun hk1 => ?_)
 ·
  refine tFa rfl <| tLd rfl rfl <| tFa rfl <| tLd rfl rfl <| tl_y rfl (y_eql rfl rfl) <| tPt rfl rfl <| asB rfl <| zq <| .s1 4 rfl <| x_ret (.dropTo L iI (ret1 rfl rfl lR ⟨rfl, rfl, by simp [hk1]⟩))
 refine sk5 rfl rfl rfl rfl rfl <| tPf rfl rfl <| asB rfl <| zq <| .s1 4 rfl <| x_ret (.dropTo L iI (ret1 rfl rfl lR ⟨rfl, rfl, by simp [hk1]⟩))
theorem of_spec (hg : HsG M) (p : PairV) :
  Con Tryz.prog 128 #[.agg (List.toArray p.cells)] G M L (fun v M' L' => L' = L ∧ okP p ∧ v = .agg (List.toArray (pcells (otsV p.o) (treeV p.t)))) (fun ch M' L' => L' = L ∧ ¬ okP p ∧ ch = lwrong 4) := by
 refine zfn Tryz.func128 rfl 34 rfl <| zr <| tl_e rfl <| e_box rfl <| fun b1 => tl_e rfl <| e_alloc <| fun b2 => zq <| zr <| tFa rfl <| tLd rfl rfl <| zca rfl (Ots_spec hg.o p.o) ?_
 rintro _ M1 _ hM1 ⟨rfl, rfl⟩
 refine mvU rfl <| zx rfl <| zx rfl <| tl_e rfl <| e_alloc <| fun b3 => tl_e rfl <| e_sT rfl rfl <| asI rfl <| zq <| .s4 1 2 3 4 rfl rfl rfl rfl <| zr <| tFa rfl <| tLd rfl rfl <| zca rfl (Tree_spec (hg.mono hM1).t p.t) ?_
 rintro _ M2 _ hM2 ⟨rfl, rfl⟩
 have hm := hM1.trans hM2
 refine mvU rfl <| zx rfl <| zx rfl <| tl_e rfl <| e_alloc <| fun b4 => tl_e rfl <| e_sT rfl rfl <| asI rfl <| zq <| .s5 2 3 4 5 6 rfl rfl rfl rfl rfl <| zr <| mvI rfl <| tl_y rfl (y_eql rfl rfl) <| mvB rfl <| tl_cases (s := 21) rfl (fun hk1 => ?_) (fun hk1 => ?_)
 ·
  refine mvI rfl <| tl_y rfl (y_eql rfl rfl) <| tPt rfl rfl <| mvB rfl <| tl_cases (s := 25) rfl (fun hk2 => ?_) (fun hk2 => ?_)
  ·
   refine tLg rfl rfl <| tLg rfl rfl <| zca rfl (Fit_spec _ _) ?_
   rintro _ _ _ _ ⟨rfl, rfl, rfl⟩
   refine tPt rfl rfl <| tl_e rfl (e_call rfl (lmust_spec _ _) (by
    rintro _ _ _ _ ⟨rfl, rfl, ht, rfl⟩
    exact TP.dropTo L iI (.retA rfl hm ⟨rfl, fun h => by have := h.2.2; simp [this] at ht, rfl⟩)) ?_)
   rintro _ _ _ _ ⟨rfl, rfl, ht⟩
   refine zq <| .s3 2 3 5 rfl rfl rfl <| zr <| tLg rfl rfl <| tLg rfl rfl <| tl_y rfl (y_build rfl) <| tl_e rfl <| e_sT rfl rfl <| zq <| .s1 2 rfl <| x_ret (retRV (L' := L) (rv1 rfl (rc_cellAgg (by rfl) rfl (.own iI iI))) iI hm ⟨rfl, ⟨hk1, hk2, by simpa using ht⟩, rfl⟩)
  refine sk3 rfl rfl rfl <| tPf rfl rfl <| tl_e rfl (e_call rfl (lmust_spec _ _) (by
   rintro _ _ _ _ ⟨rfl, rfl, ht, rfl⟩
   exact TP.dropTo L iI (.retA rfl hm ⟨rfl, fun h => hk2 h.2.1, rfl⟩)) ?_)
  rintro _ _ _ _ ⟨rfl, rfl, ht⟩
  refine zq <| .s3 2 3 5 rfl rfl rfl <| zr <| tLg rfl rfl <| tLg rfl rfl <| tl_y rfl (y_build rfl) <| tl_e rfl <| e_sT rfl rfl <| zq <| .s1 2 rfl <| x_ret (absurd ht (by simp))
 refine sk2 rfl rfl <| tPf rfl rfl <| mvB rfl <| sk3 rfl rfl rfl <| tPf rfl rfl <| tl_e rfl (e_call rfl (lmust_spec _ _) (by
  rintro _ _ _ _ ⟨rfl, rfl, ht, rfl⟩
  exact TP.dropTo L iI (.retA rfl hm ⟨rfl, fun h => hk1 h.1, rfl⟩)) ?_)
 rintro _ _ _ _ ⟨rfl, rfl, ht⟩
 refine zq <| .s3 2 3 5 rfl rfl rfl <| zr <| tLg rfl rfl <| tLg rfl rfl <| tl_y rfl (y_build rfl) <| tl_e rfl <| e_sT rfl rfl <| zq <| .s1 2 rfl <| x_ret (absurd ht (by simp))
theorem May1_spec (hg : HsG M) (p : PairV) {b : Nat} [hb : Has L b (.cells (List.toArray p.cells) 63 (0, 0))] :
  Con Tryz.prog 186 #[.pointer (some ⟨b, 0, none⟩)] G M L (fun v M' L' => L' = L ∧ ∃ (o : OtsV) (t : TreeV), v = .agg (List.toArray (pcells o t)) ∧ okP p) (fun ch M' L' => L' = L ∧ ∃ e, (¬ okP p ∧ e = 4) ∧ ch = lwrong e) := by
 refine zfn Tryz.func186 rfl 4 rfl <| zr <| tl_e rfl <| e_alloc <| fun b1 => zq <| zr <| tLg rfl rfl <| tl_e rfl (e_call rfl (of_spec hg p) (by
  rintro _ M1 _ hM1 ⟨rfl, hno, rfl⟩
  exact TP.dropTo L iI (.retA rfl hM1 ⟨rfl, 4, ⟨hno, rfl⟩, rfl⟩)) ?_)
 rintro _ M1 _ hM1 ⟨rfl, hok, rfl⟩
 refine tl_e rfl <| e_sT rfl rfl <| zq <| x_ret (retRV (L' := L) (rv1 rfl (rc_cellAgg (by rfl) rfl (.own iI iI))) iI hM1 ⟨rfl, _, _, rfl, hok⟩)
theorem lMay_spec (hg : HsG M) (p : PairV) :
  Con Tryz.prog 137 #[.agg (List.toArray p.cells)] G M L (fun v M' L' => L' = L ∧ v = .bool (decide (okP p))) noPanic := by
 refine zfn Tryz.func137 rfl 12 rfl <| zr <| tl_e rfl <| e_box rfl <| fun b1 => as0 rfl <| zq <| zr <| tl_y rfl (y_makeFunc rfl rfl) <| zca rfl (caughtP_spec (K := fun _ _ _ => okP p) (Kp := fun e => ¬ okP p ∧ e = 4) (first := []) (cap := [.pointer (some ⟨b1, 0, none⟩)]) (fun p' q' => May1_spec hg p)) ?_
 rintro v M1 _ hM1 ⟨rfl, hv⟩
 obtain ⟨o, t, e, rfl, he⟩ : ∃ (o : OtsV) (t : TreeV) (e : Int), v = .tuple #[.agg (List.toArray (pcells o t)), .int .i64 e] ∧ (e = 0 ↔ okP p) := by
  rcases hv with ⟨o, t, rfl, hok⟩ | ⟨e, rfl, hno, rfl⟩
  ·
   exact ⟨o, t, 0, rfl, iff_of_true rfl hok⟩
  exact ⟨ots0, tree0, 4, rfl, iff_of_false (by decide) hno⟩
 refine mvU rfl <| zx rfl <| zx rfl <| tl_e rfl <| e_alloc <| fun b2 => tl_e rfl <| e_sT rfl rfl <| asI rfl <| zq <| .s1 4 rfl <| zr <| mvI rfl <| tl_y rfl (y_eql rfl rfl) <| asB rfl <| zq <| x_ret (.dropTo L iI (ret1 rfl rfl hM1 ⟨rfl, by rw [decide_eq_decide.2 he]⟩))
end
theorem treeV_code {c : UInt32} (h : treeE c = 0) : (treeV c).code = c := by
 obtain ⟨x, h1, h2⟩ := treeE_some h
 rw [h2]
 unfold treeOf at h1
 split at h1
 ·
  obtain rfl := Option.some.inj h1; rfl
 split at h1
 ·
  obtain rfl := Option.some.inj h1; rfl
 cases h1
abbrev PairV.T (x : PairV) : TreeV := treeV x.t
structure PF (x : PairV) (n w p H : Nat) : Prop where
 ok : okP x
 o : OF (otsV x.o) n w p
 tn : (treeV x.t).n = (n : Int)
 th : (treeV x.t).h = (H : Int)
 h1 : 1 ≤ H
 h2 : H ≤ 25
 tc : (treeV x.t).code = x.t
 oc : (otsV x.o).code = x.o
 s : okS (treeV x.t) 16
 lv : leavesN (treeV x.t).h = pw2 H
theorem okP_facts {x : PairV} (h : okP x) : ∃ n w p H, PF x n w p H := by
 obtain ⟨hc, ho⟩ := otsV_code h.1
 obtain ⟨n, w, p, hof⟩ := okO_facts ho
 have htc := treeV_code h.2.1
 have hs : okS (treeV x.t) 16 := ⟨by rw [htc]; exact h.2.1, by rw [htc], rfl⟩
 obtain ⟨_, H, hH, h1, h2, hlv⟩ := okS_facts hs
 exact ⟨n, w, p, H, h, hof, by rw [← h.2.2.2, hof.hn], hH, h1, h2, htc, hc, hs, hlv⟩
def keysB (x : PairV) (name sec : List UInt8) (k : Nat) : List (List UInt8) := (List.range k).map fun q => keyB (otsV x.o) name sec q
theorem keysB_len (x : PairV) (name sec : List UInt8) (k : Nat) : (keysB x name sec k).length = k := by simp [keysB]
theorem keysB_get (x : PairV) (name sec : List UInt8) {k q : Nat} (h : q < k) : (keysB x name sec k).getD q [] = keyB (otsV x.o) name sec q := by
 rw [List.getD_eq_getElem?_getD, keysB, List.getElem?_map, List.getElem?_range h]; rfl
theorem keyB_le (o : OtsV) (name sec : List UInt8) (q : Nat) : (keyB o name sec q).length ≤ 32 := cPartO_le _ _ _ _ _ _
theorem keysB_le (x : PairV) (name sec : List UInt8) (k : Nat) : ∀ b ∈ keysB x name sec k, b.length ≤ 1000000000000 := by
 intro b hb
 rw [keysB, List.mem_map] at hb
 obtain ⟨q, _, rfl⟩ := hb
 have := keyB_le (otsV x.o) name sec q
 omega
def mayC (x : PairV) (nl sl : Nat) : Int := if ¬ okP x then 4 else if 10 < (treeV x.t).h ∨ ¬ okY (otsV x.o) nl sl then 1 else 0
theorem mayC_zero {x : PairV} {nl sl : Nat} (h : mayC x nl sl = 0) : okP x ∧ (treeV x.t).h ≤ 10 ∧ okY (otsV x.o) nl sl := by
 unfold mayC at h
 split at h
 ·
  cases h
 rename_i h1
 split at h
 ·
  cases h
 rename_i h2
 exact ⟨Classical.not_not.1 h1, by omega, Classical.not_not.1 (fun h3 => h2 (.inr h3))⟩
theorem mayC_ok {x : PairV} {nl sl : Nat} (h1 : okP x) (h2 : (treeV x.t).h ≤ 10) (h3 : okY (otsV x.o) nl sl) : mayC x nl sl = 0 := by
 rw [mayC, if_neg (fun h => h h1), if_neg (by rintro (h | h); omega; exact h h3)]
def keysX (x : PairV) (name sec : List UInt8) : List (List UInt8) := keysB x name sec (leavesN (treeV x.t).h)
def pubB (x : PairV) (name sec : List UInt8) : List UInt8 := putB x.t.toNat 4 ++ (putB x.o.toNat 4 ++ (name ++ rootB (treeV x.t) name (keysX x name sec)))
def pubV (x : PairV) (nl sl : Nat) (name sec : List UInt8) : List UInt8 := if mayC x nl sl = 0 then pubB x name sec else []
def lsigE (x : PairV) (nl sl q tl : Nat) : Int := if mayC x nl sl ≠ 0 then mayC x nl sl else if 65536 < tl then 1 else if leavesN (treeV x.t).h ≤ q then 9 else 0
def lsigB (x : PairV) (name sec : List UInt8) (q : Nat) (text : List UInt8) : List UInt8 :=
 putB q 4 ++ (sigB (otsV x.o) name sec q text ++ (putB x.t.toNat 4 ++ (wayB (treeV x.t) name (keysX x name sec) q (treeV x.t).h.toNat).flatten))
def lsigV (x : PairV) (nl sl : Nat) (name sec : List UInt8) (q tl : Nat) (text : List UInt8) : List UInt8 := if lsigE x nl sl q tl = 0 then lsigB x name sec q text else []
def pubN (x : PairV) : Nat := 24 + (treeV x.t).n.toNat
def sigN (x : PairV) : Nat := 8 + sizeN (otsV x.o) + (treeV x.t).n.toNat * (treeV x.t).h.toNat
def szP (x : PairV) : Nat := if okP x then pubN x else 0
def szS (x : PairV) : Nat := if okP x then sigN x else 0
theorem PF.sizes {x : PairV} {n w p H : Nat} (h : PF x n w p H) : pubN x = 24 + n ∧ sigN x = 8 + sizeN (otsV x.o) + n * H ∧ n * H ≤ 32 * 25 ∧ sizeN (otsV x.o) ≤ 4 + 32 * 265 + 32 ∧ 4 ≤ sizeN (otsV x.o) := by
 obtain ⟨h1, h2, h3⟩ := h.o.size
 have hn := h.o.n32
 refine ⟨by rw [pubN, h.tn]; rfl, by rw [sigN, h.tn, h.th]; rfl, Nat.mul_le_mul hn.2 h.h2, ?_, ?_⟩ <;> omega
def pairC (bs : List UInt8) : PairV := ⟨UInt32.ofNat (getB ((bs.drop 4).take 4)), UInt32.ofNat (getB (bs.take 4))⟩
def pairE (bs : List UInt8) : Int := if bs.length < 8 then 2 else if ¬ okP (pairC bs) then 4 else if bs.length ≠ pubN (pairC bs) then 5 else 0
def pairZ : PairV := ⟨0, 0⟩
def pairX (bs : List UInt8) : PairV := if pairE bs = 0 then pairC bs else pairZ
theorem pairE_zero {bs : List UInt8} (h : pairE bs = 0) : 8 ≤ bs.length ∧ okP (pairC bs) ∧ bs.length = pubN (pairC bs) := by
 unfold pairE at h
 split at h
 ·
  cases h
 split at h
 ·
  cases h
 split at h
 ·
  cases h
 rename_i h1 h2 h3
 exact ⟨by omega, Classical.not_not.1 h2, Classical.not_not.1 h3⟩
def takeE (x : PairV) (bl : Nat) : Int := if ¬ okP x then 4 else if bl < sigN x then 2 else 0
def wayS (sig : List UInt8) (at_ n H : Nat) : List (List UInt8) := (List.range H).map fun i => (sig.drop (at_ + i * n)).take n
theorem wayS_succ (sig : List UInt8) (at_ n H : Nat) : wayS sig at_ n (H + 1) = wayS sig at_ n H ++ [(sig.drop (at_ + H * n)).take n] := by
 rw [wayS, List.range_succ, List.map_append]; rfl
def fitKey (x : PairV) (tl : Nat) (name text sig : List UInt8) : List UInt8 := staV 16 tl name (getB (sig.take 4)) text ((sig.drop 4).take (sizeN (otsV x.o)))
def fitWay (x : PairV) (sig : List UInt8) : List (List UInt8) := wayS sig (8 + sizeN (otsV x.o)) (treeV x.t).n.toNat (treeV x.t).h.toNat
def fitL (x : PairV) (tl : Nat) (name text sig : List UInt8) : Prop :=
 sig.length = sigN x ∧ (sig.drop 4).take 4 = putB x.o.toNat 4 ∧ (sig.drop (4 + sizeN (otsV x.o))).take 4 = putB x.t.toNat 4 ∧
  staE 16 tl ((sig.drop 4).take (sizeN (otsV x.o))) = 0 ∧ climbE (treeV x.t) 16 (getB (sig.take 4)) (fitWay x sig) = 0
instance {x : PairV} {tl : Nat} {name text sig : List UInt8} : Decidable (fitL x tl name text sig) := inferInstanceAs (Decidable (_ ∧ _))
def fitR (x : PairV) (tl : Nat) (name text sig : List UInt8) : List UInt8 := climbB (treeV x.t) name (getB (sig.take 4)) (fitKey x tl name text sig) (fitWay x sig)
def nameP (pub : List UInt8) : List UInt8 := (pub.drop 8).take 16
def fitK (pub : List UInt8) (tl : Nat) (text sig : List UInt8) : Prop :=
 pairE pub = 0 ∧ fitL (pairC pub) tl (nameP pub) text sig ∧ fitR (pairC pub) tl (nameP pub) text sig = pub.drop 24
instance {pub : List UInt8} {tl : Nat} {text sig : List UInt8} : Decidable (fitK pub tl text sig) := inferInstanceAs (Decidable (_ ∧ _))
theorem putB_get4 {bs : List UInt8} (h : bs.length = 4) : putB (UInt32.ofNat (getB bs)).toNat 4 = bs := by
 have := getB_lt bs
 rw [h] at this
 have h2 := put_get bs
 rw [h] at h2
 rw [UInt32.toNat_ofNat', Nat.mod_eq_of_lt (by omega), h2]
theorem keysX_len {x : PairV} {n w p H : Nat} (hx : PF x n w p H) (name sec : List UInt8) : (keysX x name sec).length = pw2 H := by rw [keysX, keysB_len, hx.lv]
theorem keysX_get {x : PairV} {n w p H : Nat} (hx : PF x n w p H) (name sec : List UInt8) {q : Nat} (hq : q < pw2 H) : (keysX x name sec).getD q [] = keyB (otsV x.o) name sec q := keysB_get x name sec (by rw [hx.lv]; exact hq)
theorem way_flat (t : TreeV) (name : List UInt8) (keys : List (List UInt8)) (q k : Nat) : (wayB t name keys q k).flatten = catR (fun h => (lvl t name keys h).getD (sib (q / pw2 h)) []) k := rfl
theorem way_each {x : PairV} {n w p H : Nat} (hx : PF x n w p H) {name : List UInt8} (hn : name.length = 16) (sec : List UInt8) {q : Nat} (hq : q < pw2 H) : ∀ h, h < H → ((lvl (treeV x.t) name (keysX x name sec) h).getD (sib (q / pw2 h)) []).length = n := by
 intro h hh
 have h1 := lvl_getLen (okS_facts hx.s).1 hn (keysX_len hx name sec) (j := h) (by omega) (sib_lt hh hq)
 rw [hx.tn] at h1
 omega
theorem lsig_parts {x : PairV} {n w p H : Nat} (hx : PF x n w p H) {name : List UInt8} (hn : name.length = 16) (sec : List UInt8) {q : Nat} (text : List UInt8) (hq : q < pw2 H) :
  (lsigB x name sec q text).length = sigN x ∧ (lsigB x name sec q text).take 4 = putB q 4 ∧ ((lsigB x name sec q text).drop 4).take (sizeN (otsV x.o)) = sigB (otsV x.o) name sec q text ∧
   ((lsigB x name sec q text).drop (4 + sizeN (otsV x.o))).take 4 = putB x.t.toNat 4 ∧ fitWay x (lsigB x name sec q text) = wayB (treeV x.t) name (keysX x name sec) q H := by
 obtain ⟨z1, z2, z3, z4, z5⟩ := hx.sizes
 obtain ⟨s1, _, _, _⟩ := sig_parts hx.o hn sec q text
 have hHn : (treeV x.t).h.toNat = H := by rw [hx.th]; rfl
 have hnn : (treeV x.t).n.toNat = n := by rw [hx.tn]; rfl
 have p1 : (putB q 4).length = 4 := putB_length 4 _
 have p2 : (putB x.t.toNat 4).length = 4 := putB_length 4 _
 have hrow := way_each hx hn sec hq
 have hw : (wayB (treeV x.t) name (keysX x name sec) q H).flatten.length = H * n := by rw [way_flat]; exact catR_len H hrow
 have e : lsigB x name sec q text = putB q 4 ++ (sigB (otsV x.o) name sec q text ++ (putB x.t.toNat 4 ++ (wayB (treeV x.t) name (keysX x name sec) q H).flatten)) := by rw [lsigB, hHn]
 have d1 : (lsigB x name sec q text).drop 4 = sigB (otsV x.o) name sec q text ++ (putB x.t.toNat 4 ++ (wayB (treeV x.t) name (keysX x name sec) q H).flatten) := by rw [e]; exact drop_at p1
 have d2 : (lsigB x name sec q text).drop (4 + sizeN (otsV x.o)) = putB x.t.toNat 4 ++ (wayB (treeV x.t) name (keysX x name sec) q H).flatten := by rw [← List.drop_drop, d1]; exact drop_at s1
 have d3 : (lsigB x name sec q text).drop (8 + sizeN (otsV x.o)) = (wayB (treeV x.t) name (keysX x name sec) q H).flatten := by
  rw [show 8 + sizeN (otsV x.o) = (4 + sizeN (otsV x.o)) + 4 by omega, ← List.drop_drop, d2]; exact drop_at p2
 refine ⟨?_, ?_, ?_, ?_, ?_⟩
 ·
  rw [e, List.length_append, List.length_append, List.length_append, p1, p2, s1, hw, z2, Nat.mul_comm H n]; omega
 ·
  rw [e]; exact take_at p1
 ·
  rw [d1]; exact take_at s1
 ·
  rw [d2]; exact take_at p2
 rw [fitWay, wayS, hHn, hnn, wayB]
 refine List.map_congr_left <| fun i hi => ?_
 rw [← List.drop_drop, d3, way_flat]
 exact catR_row hrow (List.mem_range.1 hi)
theorem pub_parts {x : PairV} {n w p H : Nat} (hx : PF x n w p H) {name : List UInt8} (hn : name.length = 16) (sec : List UInt8) :
  (pubB x name sec).length = 24 + n ∧ pairC (pubB x name sec) = x ∧ (pubB x name sec).take 8 = putB x.t.toNat 4 ++ putB x.o.toNat 4 ∧ nameP (pubB x name sec) = name ∧ (pubB x name sec).drop 24 = rootB (treeV x.t) name (keysX x name sec) := by
 have p1 : (putB x.t.toNat 4).length = 4 := putB_length 4 _
 have p2 : (putB x.o.toNat 4).length = 4 := putB_length 4 _
 have hr := root_len hx.s hn hx.th (keysX_len hx name sec)
 rw [hx.tn] at hr
 have d1 : (pubB x name sec).drop 4 = putB x.o.toNat 4 ++ (name ++ rootB (treeV x.t) name (keysX x name sec)) := drop_at p1
 have d2 : (pubB x name sec).drop 8 = name ++ rootB (treeV x.t) name (keysX x name sec) := by
  rw [show 8 = 4 + 4 from rfl, ← List.drop_drop, d1]; exact drop_at p2
 have h1 := x.o.toNat_lt
 have h2 := x.t.toNat_lt
 refine ⟨?_, ?_, ?_, ?_, ?_⟩
 ·
  rw [pubB, List.length_append, List.length_append, List.length_append, p1, p2, hn]; omega
 ·
  rw [pairC, d1, take_at p2, show (pubB x name sec).take 4 = putB x.t.toNat 4 from take_at p1, getB_put, getB_put, Nat.mod_eq_of_lt (by omega), Nat.mod_eq_of_lt (by omega)]
  rw [UInt32.ofNat_toNat, UInt32.ofNat_toNat]
 ·
  rw [pubB, ← List.append_assoc]; exact take_at (by rw [List.length_append, p1, p2])
 ·
  rw [nameP, d2]; exact take_at hn
 rw [show 24 = 8 + 16 from rfl, ← List.drop_drop, d2]; exact drop_at hn
theorem pubB_E {x : PairV} {n w p H : Nat} (hx : PF x n w p H) {name : List UInt8} (hn : name.length = 16) (sec : List UInt8) : pairE (pubB x name sec) = 0 := by
 obtain ⟨h1, h2, _, _, _⟩ := pub_parts hx hn sec
 obtain ⟨z1, _, _, _, _⟩ := hx.sizes
 rw [pairE, if_neg (by omega), h2, if_neg (fun h => h hx.ok), if_neg (by omega)]
theorem lms_fits {x : PairV} {n w p H : Nat} (hx : PF x n w p H) {name : List UInt8} (hn : name.length = 16) (sec : List UInt8) {q : Nat} {tl : Nat} (text : List UInt8) (hq : q < pw2 H) (htl : tl ≤ 65536) : fitK (pubB x name sec) tl text (lsigB x name sec q text) := by
 obtain ⟨h1, h2, h3, h4, h5⟩ := pub_parts hx hn sec
 obtain ⟨s1, s2, s3, s4, s5⟩ := lsig_parts hx hn sec text hq
 obtain ⟨k1, k2⟩ := sta_sig hx.o hn sec q text (nl := 16) (tl := tl) rfl htl
 have hpw := pw2_25 hx.h2
 have hqb : getB (putB q 4) = q := by rw [getB_put, Nat.mod_eq_of_lt (by omega)]
 obtain ⟨_, _, _, z4, z5⟩ := hx.sizes
 have hcode : ((lsigB x name sec q text).drop 4).take 4 = putB x.o.toNat 4 := by
  have : ((lsigB x name sec q text).drop 4).take 4 = (sigB (otsV x.o) name sec q text).take 4 := by rw [← s3, List.take_take, Nat.min_eq_left z5]
  rw [this, sigB, hx.oc]
  exact take_at (putB_length 4 _)
 refine ⟨pubB_E hx hn sec, ?_, ?_⟩
 ·
  rw [h2, h4]
  refine ⟨s1, hcode, s4, by rw [s3]; exact k1, ?_⟩
  rw [s5, s2, hqb, climbE, if_pos (way_ok hx.s hn hx.th (keysX_len hx name sec) hq)]
 rw [h2, h4, h5, fitR, fitKey, s5, s2, hqb, s3, k2, ← keysX_get hx name sec hq]
 exact climb_root hx.s hn hx.th (keysX_len hx name sec) hq
theorem flat_len {α : Type} {f : α → List Value} {s : Nat} (hf : ∀ a, (f a).length = s) : ∀ (l : List α), (l.flatMap f).length = l.length * s
 | [] => by simp
 | a :: l => by rw [List.flatMap_cons, List.length_append, hf, flat_len hf l, List.length_cons, Nat.succ_mul]; omega
theorem flat_get {α : Type} {f : α → List Value} {s : Nat} (hf : ∀ a, (f a).length = s) : ∀ (l : List α) (i : Nat) (a : α), l[i]? = some a → ∀ j, j < s → (l.flatMap f)[i * s + j]? = (f a)[j]?
 | [], i, a, h, _, _ => by simp at h
 | b :: l, 0, a, h, j, hj => by
  obtain rfl : b = a := by simpa using h
  rw [List.flatMap_cons, Nat.zero_mul, Nat.zero_add, List.getElem?_append_left (by rw [hf]; exact hj)]
 | b :: l, i + 1, a, h, j, hj => by
  have h' : l[i]? = some a := by simpa using h
  rw [List.flatMap_cons, Nat.succ_mul, List.getElem?_append_right (by rw [hf]; omega), hf, show i * s + s + j - s = i * s + j by omega]
  exact flat_get hf l i a h' j hj
theorem flat_take {α : Type} {f : α → List Value} {s : Nat} (hf : ∀ a, (f a).length = s) : ∀ (l : List α) (i : Nat) (a : α), l[i]? = some a → ((l.flatMap f).drop (i * s)).take s = f a
 | [], i, a, h => by simp at h
 | b :: l, 0, a, h => by
  obtain rfl : b = a := by simpa using h
  rw [List.flatMap_cons, Nat.zero_mul, List.drop_zero, List.take_append_of_le_length (by rw [hf]; exact Nat.le_refl _), List.take_of_length_le (by rw [hf]; exact Nat.le_refl _)]
 | b :: l, i + 1, a, h => by
  have h' : l[i]? = some a := by simpa using h
  rw [List.flatMap_cons, Nat.succ_mul, List.drop_append, hf, show i * s + s - s = i * s by omega, List.drop_of_length_le (by rw [hf]; omega), List.nil_append]
  exact flat_take hf l i a h'
def p0 : PairV := ⟨0, 0⟩
def tv (p : PairV) : TreeV := treeV p.t
def prow (l : List PairV) : List Value := l.flatMap PairV.cells
def trow (ts : List TreeV) : List Value := ts.flatMap TreeV.cells
theorem pcl (p : PairV) : p.cells.length = 2 := rfl
theorem tcl (t : TreeV) : t.cells.length = 4 := rfl
def hN (t : TreeV) : Nat := t.h.toNat
def hsum (l : List TreeV) : Nat := (l.map hN).sum
def good (l : List PairV) (p : PairV) : Prop := okP p ∧ (tv p).kind = (tv (l.getD 0 p0)).kind ∧ (tv p).n = (tv (l.getD 0 p0)).n
instance {l : List PairV} {p : PairV} : Decidable (good l p) := inferInstanceAs (Decidable (_ ∧ _))
def okL (l : List PairV) : Prop := (1 ≤ l.length ∧ l.length ≤ 8) ∧ (∀ p ∈ l, good l p) ∧ hsum (l.map tv) ≤ 60
instance {l : List PairV} : Decidable (okL l) := inferInstanceAs (Decidable (_ ∧ _))
theorem okP_h {p : PairV} (h : okP p) : (tv p).h = ((hN (tv p) : Nat) : Int) ∧ 1 ≤ hN (tv p) ∧ hN (tv p) ≤ 25 := by
 have := treeV_facts h.2.1
 unfold hN tv
 omega
theorem hsum_snoc (l : List TreeV) (t : TreeV) : hsum (l ++ [t]) = hsum l + hN t := by simp [hsum]
theorem hsum_le {l : List PairV} (h : ∀ p ∈ l, okP p) : hsum (l.map tv) ≤ l.length * 25 := by
 induction l with
 | nil => simp [hsum]
 | cons p l ih =>
  have h1 := (okP_h (h p List.mem_cons_self)).2.2
  have h2 := ih (fun q hq => h q (List.mem_cons_of_mem _ hq))
  simp only [hsum, List.map_cons, List.sum_cons, List.length_cons] at h2 ⊢
  omega
section
variable {G : World} {M : Mem} {L : Own}
theorem trees_spec (hg : HsG M) {A : Option Addr} {n c : Nat} {l : List PairV} (h : Row M 2 A n c (prow l)) :
  Con Tryz.prog 91 #[.slice A n c] G M L (fun v M' L' => L' = L ∧ okL l ∧ ∃ A' c', v = .slice A' n c' ∧ Row M' 4 A' n c' (trow (l.map tv))) (fun ch M' L' => L' = L ∧ ¬ okL l ∧ ch = hwrong 4) := by
 have hmx := h.max
 have hle := h.le
 have hln : l.length = n := by have := h.len; rw [prow, flat_len pcl] at this; omega
 refine zfn Tryz.func91 rfl 63 rfl <| zr <| as0 rfl <| zq <| x_join (I := fun F D M1 L1 => (1 ≤ n ∧ n ≤ 8) ∧ D = [] ∧ M = M1 ∧ L = L1 ∧ F = [(0, .slice A n c)]) ?_ (fun Jq1 => ?_)
 ·
  rintro _ _ _ _ ⟨h18, rfl, rfl, rfl, rfl⟩
  refine zr <| as0 rfl <| zq <| zr <| as0 rfl <| zq <| zr2 <| mvS rfl <| tLen rfl <| mv0 rfl <| zq <| x_block ?_
  refine x_loop (I := fun m' F D M1 L1 => ∃ (k : Nat) (A1 : Option Addr) (c1 : Nat) (E : Own), m' = n - k ∧ k ≤ n ∧ Le M M1 ∧ OwnRow 105 4 A1 k c1 (trow ((l.take k).map tv)) E ∧ (∀ p ∈ l.take k, good l p) ∧ D = [] ∧ L1 = E ++ L ∧ F = [(3, .slice A1 k c1), (4, .int .i64 (hsum ((l.take k).map tv) : Nat)), (18, .slice A n c), (19, .int .i64 n), (20, .int .i64 k)]) (n) (F0 := [(3, _), (4, _), (18, _), (19, _), (20, _)]) ?_ (cs5 rfl rfl rfl rfl rfl) ?_
  ·
   exact ⟨0, none, 0, [], rfl, by omega, Le.refl _, .nil, fun p hp => by simp at hp, rfl, rfl, rfl⟩
  rintro m _ _ M1 L1 ⟨k, A1, c1, E, rfl, hk, hm, hE, hgd, rfl, rfl, rfl⟩
  have hs8 := hsum_le (fun p hp => (hgd p hp).1)
  have htl : (l.take k).length = k := by rw [List.length_take]; omega
  rw [htl] at hs8
  refine zr <| tl_y rfl (y_lss rfl rfl) <| zq <| x_seq <| x_cond rfl (fun hc1 => ?_) (fun hc1 => ?_)
  ·
   have hkn : k < n := by omega
   obtain ⟨p, hp⟩ : ∃ p, l[k]? = some p := ⟨_, List.getElem?_eq_getElem (by omega)⟩
   have hmem : p ∈ l := List.mem_of_getElem? hp
   have htk : l.take (k + 1) = l.take k ++ [p] := by
    rw [List.take_add_one, hp]; rfl
   obtain ⟨g, o, rfl, hcell⟩ := (h.mono hm).cellsN (by omega)
   have hc2 := fun L => hcell L (k * 2) 2 (by rw [prow, flat_len pcl]; omega)
   simp only [prow, flat_take pcl l k p hp] at hc2
   refine x_skip <| .then_normal <| x_seq <| x_block <| zr <| tl_y rfl (y_indexAddr rfl rfl (by omega)) <| tl_y rfl (y_loadAgg rfl rfl (.at_ (hc2 _) (by omega))) <| tl_e rfl <| e_alloc <| fun b1 => tl_e rfl <| e_sT rfl rfl <| zq <| zr <| tLg rfl rfl ?_
   refine zca rfl (lMay_spec (hg.mono hm) p) ?_
   rintro _ M2 _ hM2 ⟨rfl, rfl⟩
   replace hm := hm.trans hM2
   refine tl_e rfl (e_call rfl (hmust_spec _ _) (by
    rintro _ _ _ _ ⟨rfl, rfl, ht, rfl⟩
    exact TP.dropTo L iI (.retA rfl hm ⟨rfl, fun h => by have := (h.2.1 p hmem).1; simp [this] at ht, rfl⟩)) ?_)
   rintro _ _ _ _ ⟨rfl, rfl, ht⟩
   have hokp : okP p := by simpa using ht
   obtain ⟨hH, hH1, hH25⟩ := okP_h hokp
   refine zq <| .s6 3 4 6 18 19 20 rfl rfl rfl rfl rfl rfl <| zr <| tFa rfl <| tLd rfl rfl <| zca rfl (Tree_spec (hg.mono hm).t p.t) ?_
   rintro _ M3 _ hM3 ⟨rfl, rfl⟩
   replace hm := hm.trans hM3
   refine mvU rfl <| zx rfl <| zx rfl <| tl_e rfl <| e_alloc <| fun b2 => tl_e rfl <| e_sT rfl rfl <| asI rfl <| zq <| .s6 3 4 7 18 19 20 rfl rfl rfl rfl rfl rfl <| zr <| mvS rfl <| tLg rfl rfl <| tl_e rfl <| e_buildSlice rfl (by decide) <| fun b3 => .pub b3 iI <| fun M4 hM4 hb3 => ?_
   replace hm := hm.trans hM4
   refine .bringE E iI <| tl_e rfl <| e_append (by decide) rfl rfl hE (.row (Row.whole (s := 4) (vs := (tv p).cells) hb3 rfl (by omega))) rfl (by omega) (by omega) <| fun A5 c5 E5 hE5 => ?_
   have hrw : trow ((l.take k).map tv) ++ (tv p).cells = trow ((l.take (k + 1)).map tv) := by rw [htk, List.map_append]; simp [trow]
   rw [hrw] at hE5
   refine asS rfl <| zq <| .s6 3 4 7 18 19 20 rfl rfl rfl rfl rfl rfl <| x_seq ?_
   have hq0 : ∃ u, ((l.take (k + 1)).map tv)[0]? = some u ∧ u = tv (l.getD 0 p0) := by
    refine ⟨_, List.getElem?_eq_getElem (by rw [List.length_map, List.length_take]; omega), ?_⟩
    rw [List.getElem_map, List.getElem_take, List.getD_eq_getElem?_getD, List.getElem?_eq_getElem (by omega)]
    rfl
   obtain ⟨u, hu, hue⟩ := hq0
   have hgu : good l p ↔ (tv p).kind = u.kind ∧ (tv p).n = u.n := by rw [hue]; exact ⟨fun h => h.2, fun h => ⟨hokp, h⟩⟩
   obtain ⟨g5, o5, rfl, hc5⟩ := hE5.cellIn (M := M4) (L := E5 ++ ((b2, .cells (List.toArray (tv p).cells) 105 (0, 0)) :: (b1, .cells (List.toArray p.cells) 63 (0, 0)) :: L)) iI (by rw [trow, flat_len tcl, List.length_map, List.length_take]; omega)
   have hv1 := hc5 (0 * 4 + 1) (.int .i64 u.kind) (by rw [trow, flat_get tcl _ 0 u hu 1 (by omega)]; rfl)
   have hv2 := hc5 (0 * 4 + 2) (.int .i64 u.n) (by rw [trow, flat_get tcl _ 0 u hu 2 (by omega)]; rfl)
   have hsn : hsum ((l.take (k + 1)).map tv) = hsum ((l.take k).map tv) + hN (tv p) := by rw [htk, List.map_append]; exact hsum_snoc _ _
   refine x_draw 17 hmix rfl <| pFa 0 rfl rfl <| pLd 1 rfl rfl rfl <| pmS 2 rfl rfl <| zp 3 rfl rfl (y_indexAddr rfl rfl (by omega)) <| pFa 4 rfl rfl <| zy 5 rfl rfl (y_load rfl rfl (.at_ hv1 (by omega))) <| zp 6 rfl rfl (y_eql rfl rfl) <| pmB 7 rfl rfl <| to_cases (s := 44) rfl (fun hk1 => ?_) (fun hk1 => ?_)
   ·
    refine pFa 8 rfl rfl <| pLd 9 rfl rfl rfl <| pmS 10 rfl rfl <| zp 11 rfl rfl (y_indexAddr rfl rfl (by omega)) <| pFa 12 rfl rfl <| zy 13 rfl rfl (y_load rfl rfl (.at_ hv2 (by omega))) <| zp 14 rfl rfl (y_eql rfl rfl) <| zp 15 rfl rfl (y_pickT rfl rfl) ?_
    refine to_e 16 rfl (by kernel_rfl) rfl (e_call rfl (hmust_spec _ _) (by
     rintro _ _ _ _ ⟨rfl, rfl, ht2, rfl⟩
     exact TP.dropTo L iI (.retA rfl hm ⟨rfl, fun h => absurd (hgu.1 (h.2.1 p hmem)).2 (of_decide_eq_false ht2), rfl⟩)) ?_)
    rintro _ _ _ _ ⟨rfl, rfl, ht2⟩
    refine kp ?_
    refine zz <| .then_normal <| .s6 3 4 7 18 19 20 rfl rfl rfl rfl rfl rfl <| x_region <| mvI rfl <| tFa rfl <| tLd rfl rfl ?_
    rw [show (treeV p.t).h = ((hN (tv p) : Nat) : Int) from hH]
    refine tl_y rfl (y_addI rfl rfl (by omega)) ?_
    rw [show ((hsum ((l.take k).map tv) : Nat) : Int) + ((hN (tv p) : Nat) : Int) = ((hsum ((l.take (k + 1)).map tv) : Nat) : Int) by rw [hsn]; omega]
    refine asI rfl <| tl_nil <| .block_normal <| .then_normal <| .s5 3 4 18 19 20 rfl rfl rfl rfl rfl <| x_region <| tl_y rfl (y_addI rfl rfl (by omega)) <| mvI rfl <| .dropTo (E5 ++ L) iI <| tl_nil <| .loop_next (m' := n - (k + 1)) (by omega) (F' := [(3, _), (4, _), (18, _), (19, _), (20, _)]) (cs5 rfl rfl rfl rfl rfl) ?_
    exact ⟨k + 1, _, c5, E5, rfl, by omega, hm, hE5, fun q hq => by
     rw [htk] at hq
     rcases List.mem_append.1 hq with hq | hq
     ·
      exact hgd q hq
     obtain rfl := List.mem_singleton.1 hq
     exact hgu.2 ⟨hk1, of_decide_eq_true ht2⟩, rfl, rfl, rfl⟩
   refine zs 8 rfl rfl <| zs 9 rfl rfl <| zs 10 rfl rfl <| zs 11 rfl rfl <| zs 12 rfl rfl <| zs 13 rfl rfl <| zs 14 rfl rfl <| zp 15 rfl rfl (y_pickF rfl rfl) <| to_e 16 rfl (by kernel_rfl) rfl (e_call rfl (hmust_spec _ _) (by
    rintro _ _ _ _ ⟨rfl, rfl, ht2, rfl⟩
    exact TP.dropTo L iI (.retA rfl hm ⟨rfl, fun h => hk1 (hgu.1 (h.2.1 p hmem)).1, rfl⟩)) ?_)
   rintro _ _ _ _ ⟨rfl, rfl, ht2⟩
   refine kp ?_
   refine zz <| .then_normal <| .s6 3 4 7 18 19 20 rfl rfl rfl rfl rfl rfl <| x_region <| mvI rfl <| tFa rfl <| tLd rfl rfl ?_
   rw [show (treeV p.t).h = ((hN (tv p) : Nat) : Int) from hH]
   refine tl_y rfl (y_addI rfl rfl (by omega)) ?_
   rw [show ((hsum ((l.take k).map tv) : Nat) : Int) + ((hN (tv p) : Nat) : Int) = ((hsum ((l.take (k + 1)).map tv) : Nat) : Int) by rw [hsn]; omega]
   refine asI rfl <| tl_nil <| .block_normal <| .then_normal <| .s5 3 4 18 19 20 rfl rfl rfl rfl rfl <| x_region <| tl_y rfl (y_addI rfl rfl (by omega)) <| mvI rfl <| .dropTo (E5 ++ L) iI <| tl_nil <| .loop_next (m' := n - (k + 1)) (by omega) (F' := [(3, _), (4, _), (18, _), (19, _), (20, _)]) (cs5 rfl rfl rfl rfl rfl) ?_
   exact absurd ht2 (by simp)
  obtain rfl : k = n := by omega
  rw [List.take_of_length_le (by omega)] at hE hgd ⊢
  refine x_exit <| .then_exit <| .loop_exit <| .block_exit <| .then_normal <| .s2 3 4 rfl rfl <| zr <| mvI rfl <| tl_y rfl (y_leq rfl rfl) <| tl_e rfl (e_call rfl (hmust_spec _ _) (by
   rintro _ _ _ _ ⟨rfl, rfl, ht, rfl⟩
   exact TP.dropTo L iI (.retA rfl hm ⟨rfl, fun h => by have := h.2.2; simp at ht; omega, rfl⟩)) ?_)
  rintro _ _ _ _ ⟨rfl, rfl, ht⟩
  refine .pubRow hE <| fun M4 hM4 hrow => zq <| .s1 3 rfl <| zr <| mvS rfl <| asS rfl <| zq <| x_ret (ret1 rfl rfl (hm.trans hM4) ⟨rfl, ⟨⟨by omega, by omega⟩, hgd, by simp at ht; omega⟩, _, _, rfl, hrow⟩)
 refine x_region <| mvS rfl <| tLen rfl <| tl_y rfl (y_geq rfl rfl) <| mvB rfl <| tl_cases (s := 12) rfl (fun hk2 => ?_) (fun hk2 => ?_)
 ·
  refine mvS rfl <| tLen rfl <| tl_y rfl (y_leq rfl rfl) <| tPt rfl rfl <| tl_e rfl (e_call rfl (hmust_spec _ _) (by
   rintro _ _ _ _ ⟨rfl, rfl, ht, rfl⟩
   exact TP.dropTo L iI (.retA rfl lR ⟨rfl, fun h => by have := h.1; first | (cases ht; done) | (simp at ht; omega) | omega, rfl⟩)) ?_)
  rintro _ _ _ _ ⟨rfl, rfl, ht⟩
  refine zq <| .sub (F' := [(0, _)]) (.cons rfl .nil) <| Jq1 _ _ _ _ ?_
  exact ⟨by first | (cases ht; done) | (simp at ht; omega) | omega, rfl, rfl, rfl, rfl⟩
 refine sk3 rfl rfl rfl <| tPf rfl rfl <| tl_e rfl (e_call rfl (hmust_spec _ _) (by
  rintro _ _ _ _ ⟨rfl, rfl, ht, rfl⟩
  exact TP.dropTo L iI (.retA rfl lR ⟨rfl, fun h => by have := h.1; first | (cases ht; done) | (simp at ht; omega) | omega, rfl⟩)) ?_)
 rintro _ _ _ _ ⟨rfl, rfl, ht⟩
 refine zq <| .sub (F' := [(0, _)]) (.cons rfl .nil) <| Jq1 _ _ _ _ ?_
 exact ⟨by first | (cases ht; done) | (simp at ht; omega) | omega, rfl, rfl, rfl, rfl⟩
end
def totN (l : List PairV) : Nat := if okL l then pw2 (hsum (l.map tv)) else 0
def hOk (ts : List TreeV) : Prop := ∀ t ∈ ts, t.h = ((hN t : Nat) : Int) ∧ 1 ≤ hN t ∧ hN t ≤ 25
theorem okL_h {l : List PairV} (h : okL l) : hOk (l.map tv) := fun t ht => by
 obtain ⟨p, hp, rfl⟩ := List.mem_map.1 ht
 exact okP_h (h.2.1 p hp).1
theorem hsum_take {ts : List TreeV} : ∀ (k : Nat), hsum (ts.take k) ≤ hsum ts := by
 induction ts with
 | nil => intro k; simp [hsum]
 | cons t ts ih =>
  intro k
  cases k with
  | zero => simp [hsum]
  | succ k =>
   have := ih k
   simp only [hsum, List.take_succ_cons, List.map_cons, List.sum_cons] at this ⊢
   omega
theorem pw2_60 {a : Nat} (h : a ≤ 60) : pw2 a ≤ 1152921504606846976 := pw2_le (k := 60) h
theorem pw2_add (a b : Nat) : pw2 (a + b) = pw2 a * pw2 b := Nat.pow_add 2 a b
section
variable {G : World} {M : Mem} {L : Own}
theorem total_spec {A : Option Addr} {n c : Nat} {ts : List TreeV} (h : Row M 4 A n c (trow ts)) (hh : hOk ts) (h60 : hsum ts ≤ 60) :
  Con Tryz.prog 90 #[.slice A n c] G M L (fun v M' L' => M = M' ∧ L = L' ∧ v = .int .u64 (pw2 (hsum ts) : Nat)) noPanic := by
 have hmx := h.max
 have hle := h.le
 have hln : ts.length = n := by have := h.len; rw [trow, flat_len tcl] at this; omega
 refine zfn Tryz.func90 rfl 18 rfl <| zr <| as0 rfl <| zq <| zr <| as0 rfl <| zq <| zr2 <| mvS rfl <| tLen rfl <| mv0 rfl <| zq <| x_block ?_
 refine x_loop (I := fun m' F D M1 L1 => ∃ (k : Nat) (x : UInt64), m' = n - k ∧ k ≤ n ∧ x.toNat = pw2 (hsum (ts.take k)) ∧ D = [] ∧ M = M1 ∧ L = L1 ∧ F = [(3, .int .u64 (x.toNat : Int)), (6, .slice A n c), (7, .int .i64 n), (8, .int .i64 k)]) (n) (F0 := [(3, _), (6, _), (7, _), (8, _)]) ?_ (cs4 rfl rfl rfl rfl) ?_
 ·
  exact ⟨0, 1, rfl, by omega, rfl, rfl, rfl, rfl, rfl⟩
 rintro m _ _ _ _ ⟨k, x, rfl, hk, hx, rfl, rfl, rfl, rfl⟩
 refine zr <| tl_y rfl (y_lss rfl rfl) <| zq <| x_seq <| x_cond rfl (fun hc1 => ?_) (fun hc1 => ?_)
 ·
  have hkn : k < n := by omega
  obtain ⟨t, ht⟩ : ∃ t, ts[k]? = some t := ⟨_, List.getElem?_eq_getElem (by omega)⟩
  obtain ⟨hH, hH1, hH25⟩ := hh t (List.mem_of_getElem? ht)
  have htk : ts.take (k + 1) = ts.take k ++ [t] := by rw [List.take_add_one, ht]; rfl
  obtain ⟨g, o, rfl, hcell⟩ := h.cellsN (by omega)
  have hc2 := fun L => hcell L (k * 4) 4 (by rw [trow, flat_len tcl]; omega)
  simp only [trow, flat_take tcl ts k t ht] at hc2
  have hsn : hsum (ts.take (k + 1)) = hsum (ts.take k) + hN t := by rw [htk]; exact hsum_snoc _ _
  have hs1 := hsum_take (ts := ts) (k + 1)
  have hp1 := pw2_60 (a := hsum (ts.take (k + 1))) (by omega)
  have hxs : (shl64 x (hN t)).toNat = pw2 (hsum (ts.take (k + 1))) := by
   rw [shl64, UInt64.toNat_ofNat', hx, show 2 ^ hN t = pw2 (hN t) from rfl, ← pw2_add, ← hsn, Nat.mod_eq_of_lt (by omega)]
  refine x_skip <| .then_normal <| x_seq <| x_block <| zr <| tl_y rfl (y_indexAddr rfl rfl (by omega)) <| tl_y rfl (y_loadAgg rfl rfl (.at_ (hc2 _) (by omega))) <| tl_e rfl <| e_alloc <| fun b1 => tl_e rfl <| e_sT rfl rfl <| zq <| x_region <| mvI rfl <| tFa rfl <| tl_y rfl (y_load (v := .int .i64 ((hN t : Nat) : Int)) rfl rfl (by rw [← hH]; exact .own iI iI)) <| tl_y rfl (y_shl64 rfl rfl) <| asI rfl <| tl_nil <| .block_normal <| .then_normal <| .s4 3 6 7 8 rfl rfl rfl rfl <| x_region <| tl_y rfl (y_addI rfl rfl (by omega)) <| mvI rfl <| .dropTo L iI <| tl_nil <| .loop_next (m' := n - (k + 1)) (by omega) (F' := [(3, _), (6, _), (7, _), (8, _)]) (cs4 rfl rfl rfl rfl) ?_
  exact ⟨k + 1, shl64 x (hN t), rfl, by omega, hxs, rfl, rfl, rfl, rfl⟩
 obtain rfl : k = n := by omega
 rw [List.take_of_length_le (by omega)] at hx
 refine x_exit <| .then_exit <| .loop_exit <| .block_exit <| .then_normal <| .s1 3 rfl <| zr <| mvI rfl <| asI rfl <| zq <| x_ret (ret1 rfl rfl lR ⟨rfl, rfl, by rw [hx]⟩)
theorem Total1_spec (hg : HsG M) {A : Option Addr} {n c : Nat} {l : List PairV} (h : Row M 2 A n c (prow l)) {b : Nat} [hb : Has L b (.cells #[.slice A n c] 31 (0, 0))] :
  Con Tryz.prog 89 #[.pointer (some ⟨b, 0, none⟩)] G M L (fun v M' L' => L' = L ∧ ∃ x : Int, v = .int .u64 x ∧ okL l ∧ x = (pw2 (hsum (l.map tv)) : Nat)) (fun ch M' L' => L' = L ∧ ∃ e, (¬ okL l ∧ e = 4) ∧ ch = hwrong e) := by
 refine zfn Tryz.func89 rfl 5 rfl <| zr <| as0 rfl <| zq <| zr <| tLd rfl rfl <| tl_e rfl (e_call rfl (trees_spec hg h) (by
  rintro _ M1 _ hM1 ⟨rfl, hno, rfl⟩
  exact .retA rfl hM1 ⟨rfl, 4, ⟨hno, rfl⟩, rfl⟩) ?_)
 rintro _ M1 _ hM1 ⟨rfl, hok, A1, c1, rfl, hrow⟩
 refine zca rfl (total_spec hrow (okL_h hok) hok.2.2) ?_
 rintro _ _ _ _ ⟨rfl, rfl, rfl⟩
 refine asI rfl <| zq <| .s1 1 rfl <| x_ret (ret1 rfl rfl hM1 ⟨rfl, _, rfl, hok, rfl⟩)
theorem Total_spec (hg : HsG M) {A : Option Addr} {n c : Nat} {l : List PairV} (h : Row M 2 A n c (prow l)) :
  Con Tryz.prog 37 #[.slice A n c] G M L (fun v M' L' => L' = L ∧ v = .int .u64 (totN l : Nat)) noPanic := by
 refine zfn Tryz.func37 rfl 11 rfl <| zr <| tl_e rfl <| e_box rfl <| fun b1 => as0 rfl <| zq <| zr <| tl_y rfl (y_makeFunc rfl rfl) <| zca rfl (caughtU_spec (K := fun x _ => okL l ∧ x = (pw2 (hsum (l.map tv)) : Nat)) (Kp := fun e => ¬ okL l ∧ e = 4) (first := []) (cap := [.pointer (some ⟨b1, 0, none⟩)]) (fun p' q' => Total1_spec hg h)) ?_
 rintro v M1 _ hM1 ⟨rfl, hv⟩
 obtain ⟨e, rfl⟩ : ∃ e : Int, v = .tuple #[.int .u64 (totN l : Nat), .int .i64 e] := by
  rcases hv with ⟨x, rfl, hok, rfl⟩ | ⟨e, rfl, hno, rfl⟩
  ·
   exact ⟨0, by rw [totN, if_pos hok]⟩
  exact ⟨4, by rw [totN, if_neg hno]; rfl⟩
 refine mvU rfl <| zx rfl <| zx rfl <| asI rfl <| asI rfl <| zq <| .s1 3 rfl <| zr <| mvI rfl <| asI rfl <| zq <| x_ret (.dropTo L iI (ret1 rfl rfl hM1 ⟨rfl, rfl⟩))
end
theorem set_mid {pre vs slack : List Value} {i : Nat} {v : Value} (h : i < vs.length) : (pre ++ (vs ++ slack)).set (pre.length + i) v = pre ++ (vs.set i v ++ slack) := by
 rw [List.set_append_right _ _ (by omega), Nat.add_sub_cancel_left, List.set_append_left _ _ h]
def u32r (xs : List Nat) : List Value := xs.map fun (x : Nat) => Value.int .u32 ((x : Nat) : Int)
theorem u32r_get {xs : List Nat} {i x : Nat} (h : xs[i]? = some x) : (u32r xs)[i]? = some (.int .u32 (x : Int)) := by rw [u32r, List.getElem?_map, h]; rfl
theorem u32r_set (xs : List Nat) (i x : Nat) : (u32r xs).set i (.int .u32 (x : Int)) = u32r (xs.set i x) := by simp [u32r, List.map_set]
section
variable {G : World} {M : Mem} {L : Own}
theorem reverse_spec {A : Option Addr} {n c : Nat} {vs : List Nat} {E : Own} (hE : OwnRow 61 1 A n c (u32r vs) E) (hn : 1 ≤ n) :
  Con Tryz.prog 104 #[.slice A n c] G M (E ++ L) (fun v M' L' => M = M' ∧ ∃ E', L' = E' ++ L ∧ OwnRow 61 1 A n c (u32r vs.reverse) E') noPanic := by
 have hmx := hE.max
 have hle := hE.le
 have hvl : vs.length = n := by have := hE.len; simp [u32r] at this; omega
 obtain ⟨g, pre, slack, rfl, rfl⟩ := hE.pos (by omega)
 refine zfn Tryz.func104 rfl 28 rfl <| zr <| mvS rfl <| tLen rfl <| tl_y rfl (y_subI rfl rfl (by omega)) <| as0 rfl <| asI rfl <| zq <| x_block ?_
 refine x_loop (I := fun m' F D M1 L1 => ∃ (i : Nat) (ws : List Nat), m' = n - i ∧ i ≤ n ∧ ws.length = n ∧ (∀ x, x < n → ws[x]? = if x < i ∨ n - 1 - x < i then vs[n - 1 - x]? else vs[x]?) ∧ OwnRow 61 1 (some ⟨g, pre.length, none⟩) n c (u32r ws) [(g, .cells (pre ++ (u32r ws ++ slack)).toArray 61 (0, 0))] ∧ D = [] ∧ M = M1 ∧ L1 = (g, .cells (pre ++ (u32r ws ++ slack)).toArray 61 (0, 0)) :: L ∧ F = [(0, .slice (some ⟨g, pre.length, none⟩) n c), (2, .int .i64 (i : Nat)), (3, .int .i64 ((n : Int) - 1 - (i : Int)))]) (n) (F0 := [(0, _), (2, _), (3, _)]) ?_ (cs3 rfl rfl rfl) ?_
 ·
  exact ⟨0, vs, rfl, by omega, hvl, fun x hx => by rw [if_neg (by omega)], hE, rfl, rfl, rfl, by simp⟩
 rintro m _ _ _ _ ⟨i, ws, rfl, hi, hwl, hws, hW, rfl, rfl, rfl, rfl⟩
 refine zr2 <| mvI rfl <| mvI rfl <| tl_y rfl (y_lss rfl rfl) <| zq <| x_cond rfl (fun hc1 => ?_) (fun hc1 => ?_)
 ·
  have hij : i < n - 1 - i := by omega
  obtain ⟨a, ha⟩ : ∃ a, ws[i]? = some a := ⟨_, List.getElem?_eq_getElem (by omega)⟩
  obtain ⟨b, hb⟩ : ∃ b, ws[n - 1 - i]? = some b := ⟨_, List.getElem?_eq_getElem (by omega)⟩
  obtain ⟨g', o', hgo, hcw⟩ := hW.cellIn (M := M) (L := [(g, .cells (pre ++ (u32r ws ++ slack)).toArray 61 (0, 0))] ++ L) iI (by simp [u32r]; omega)
  obtain ⟨rfl, rfl⟩ : g = g' ∧ pre.length = o' := by simpa using hgo
  have hul : (u32r ws).length = n := by simp [u32r, hwl]
  have hW1 := hW.set i (.int .u32 (b : Int)) (by omega)
  rw [set_mid (by omega), u32r_set] at hW1
  have hul1 : (u32r (ws.set i b)).length = n := by simp [u32r, hwl]
  have hW2 := hW1.set (n - 1 - i) (.int .u32 (a : Int)) (by omega)
  rw [set_mid (by omega), u32r_set] at hW2
  rw [show (n : Int) - 1 - (i : Int) = ((n - 1 - i : Nat) : Int) by omega]
  refine x_skip <| .then_normal <| x_seq <| x_block <| x_draw 13 hmix rfl <| pmS 0 rfl rfl <| pmI 1 rfl rfl <| pmS 2 rfl rfl <| pmI 3 rfl rfl <| pmS 4 rfl rfl <| pmI 5 rfl rfl ?_
  refine zp 6 rfl rfl (y_indexAddr rfl rfl (by omega)) <| zy 7 rfl rfl (y_load rfl rfl (.at_ (hcw _ _ (u32r_get hb)) (by omega))) <| pmS 8 rfl rfl <| pmI 9 rfl rfl <| zp 10 rfl rfl (y_indexAddr rfl rfl (by omega)) <| zy 11 rfl rfl (y_load rfl rfl (.at_ (hcw _ _ (u32r_get ha)) (by omega))) <| zp 12 rfl rfl (y_indexAddr rfl rfl (by omega)) <| zt 13 rfl rfl <| e_storeAt (c := pre ++ (u32r ws ++ slack)) rfl rfl rfl iI (by simp [hul]; omega) iI ?_
  rw [show pre.length + ((i : Nat) : Int).toNat * 1 = pre.length + i by omega, set_mid (by omega), u32r_set]
  refine zp 14 rfl rfl (y_indexAddr rfl rfl (by omega)) <| zt 15 rfl rfl <| e_storeAt (c := pre ++ (u32r (ws.set i b) ++ slack)) rfl rfl rfl iI (by simp [hul1]; omega) iI ?_
  rw [show pre.length + ((n - 1 - i : Nat) : Int).toNat * 1 = pre.length + (n - 1 - i) by omega, set_mid (by omega), u32r_set]
  refine zz <| .block_normal <| .then_normal <| .s3 0 2 3 rfl rfl rfl <| x_region <| mvI rfl <| tl_y rfl (y_addI rfl rfl (by omega)) ?_
  rw [show ((i : Nat) : Int) + 1 = ((i + 1 : Nat) : Int) by omega]
  refine mvI rfl <| tl_y rfl (y_subI rfl rfl (by omega)) ?_
  rw [show ((n - 1 - i : Nat) : Int) - 1 = (n : Int) - 1 - ((i + 1 : Nat) : Int) by omega]
  refine asI rfl <| asI rfl <| tl_nil <| .loop_next (m' := n - (i + 1)) (by omega) (F' := [(0, _), (2, _), (3, _)]) (cs3 rfl rfl rfl) ?_
  exact ⟨i + 1, (ws.set i b).set (n - 1 - i) a, rfl, by omega, by simp [hwl], fun x hx => by
   rw [List.getElem?_set, List.getElem?_set]
   by_cases h1 : n - 1 - i = x
   ·
    subst h1
    rw [if_pos rfl, if_pos (by simp [hwl]; omega), if_pos (by omega), ← ha, hws i (by omega), if_neg (by omega), show n - 1 - (n - 1 - i) = i by omega]
   rw [if_neg h1]
   by_cases h2 : i = x
   ·
    subst h2
    rw [if_pos rfl, if_pos (by omega), if_pos (by omega), ← hb, hws _ (by omega), if_neg (by omega)]
   rw [if_neg h2, hws x hx]
   by_cases h3 : x < i ∨ n - 1 - x < i
   ·
    rw [if_pos h3, if_pos (by omega)]
   rw [if_neg h3, if_neg (by omega)], hW2, rfl, rfl, rfl, rfl⟩
 refine x_exit (.then_exit (.loop_exit (.block_exit (end0 rfl lR ⟨rfl, _, rfl, by
  have : ws = vs.reverse := by
   apply List.ext_getElem?
   intro x
   by_cases hx : x < n
   ·
    rw [hws x hx, List.getElem?_reverse (by omega), hvl]
    by_cases h3 : x < i ∨ n - 1 - x < i
    ·
     rw [if_pos h3]
    rw [if_neg h3, show n - 1 - x = x by omega]
   rw [List.getElem?_eq_none (by omega), List.getElem?_eq_none (by simp; omega)]
  rw [← this]; exact hW⟩))))
end
theorem tr_y2 {P : Program} {n : Nat} {Q : Post} {F : Fr} {D : List Deferred} {G : World} {M : Mem} {L : Own} {d : Tmp} {op : Op} {ty : TypeId} {v : Value} {K : Fr → List Deferred → Mem → Own → Prop} (hy : Yld P op ty F M L v) (h : K ((d, v) :: F) D M L) : Tr P n (some d) op ty Q F D G M L K := fun hok w a hw ha => by
 have hd : d < n := by simp only [okOp, Nat.blt_eq] at hok; exact hok
 exact hy.wpIn hw.sees (fun x u hx => ha.eval hx) ⟨_, D, M, L, ha.put hd v, hw, h⟩
def atN (ts : List TreeV) (x i : Nat) : Nat := (x / pw2 (hsum (ts.drop (i + 1)))) % pw2 (hN (ts.getD i tree0))
def atsN (ts : List TreeV) (x : Nat) : List Nat := (List.range ts.length).map (atN ts x)
theorem atsN_len (ts : List TreeV) (x : Nat) : (atsN ts x).length = ts.length := by simp [atsN]
theorem atsN_get (ts : List TreeV) (x : Nat) {i : Nat} (h : i < ts.length) : (atsN ts x)[i]? = some (atN ts x i) := by
 rw [atsN, List.getElem?_map, List.getElem?_range h]; rfl
theorem drop_rev {α : Type} {l : List α} {k : Nat} {a : α} (h : l[k]? = some a) : (l.drop k).reverse = (l.drop (k + 1)).reverse ++ [a] := by
 have hk := (List.getElem?_eq_some_iff.1 h).1
 rw [List.drop_eq_getElem_cons hk, List.reverse_cons, (List.getElem?_eq_some_iff.1 h).2]
theorem hsum_drop {ts : List TreeV} {k : Nat} {t : TreeV} (h : ts[k]? = some t) : hsum (ts.drop k) = hN t + hsum (ts.drop (k + 1)) := by
 have hk := (List.getElem?_eq_some_iff.1 h).1
 rw [List.drop_eq_getElem_cons hk, (List.getElem?_eq_some_iff.1 h).2]
 simp [hsum]
section
variable {G : World} {M : Mem} {L : Own}
theorem backwardT_spec {A : Option Addr} {n c : Nat} :
  Con Tryz.prog 103 #[.slice A n c] G M L (fun v M' L' => M = M' ∧ ∃ x0, L' = (x0, .cells #[.slice A n c] 169 (0, 0)) :: L ∧ v = .func (.func 148) #[] #[.pointer (some ⟨x0, 0, none⟩)]) noPanic := by
 refine zfn Tryz.func103 rfl 4 rfl <| zr <| tl_e rfl <| e_box rfl <| fun b1 => as0 rfl <| zq <| zr <| tl_y rfl (y_makeFunc rfl rfl) <| asF rfl <| zq <| x_ret (ret1 rfl rfl lR ⟨rfl, b1, rfl, rfl⟩)
theorem backwardT1_spec {l x0 : Nat} {A : Option Addr} {n c : Nat} {ts : List TreeV} {X0 : Own} (hr : Row M 4 A n c (trow ts)) {Inv : Nat → Mem → Own → Prop} {Dn : Mem → Own → Prop}
  (hy : ∀ k M1 X1 t, ts[k]? = some t → Le M M1 → Inv (k + 1) M1 X1 → YCon Tryz.prog l [.int .i64 (k : Nat), .agg (List.toArray t.cells)] G M1 X1 (Inv k) Dn) (h0 : Inv n M X0) :
  Con Tryz.prog 148 #[.func (.yield l) #[] #[], .pointer (some ⟨x0, 0, none⟩)] G M ((x0, .cells #[.slice A n c] 169 (0, 0)) :: X0)
   (fun v M' L' => ∃ X', L' = (x0, .cells #[.slice A n c] 169 (0, 0)) :: X' ∧ (Inv 0 M' X' ∨ Dn M' X')) noPanic := by
 have hmx := hr.max
 have hle := hr.le
 have hln : ts.length = n := by have := hr.len; rw [trow, flat_len tcl] at this; omega
 refine zfn Tryz.func148 rfl 19 rfl <| zr <| tLd rfl rfl <| tLen rfl <| tl_y rfl (y_subI rfl rfl (by omega)) <| asI rfl <| zq <| x_block ?_
 refine x_loop (I := fun m' F D M1 L1 => ∃ (k : Nat) (X1 : Own), k = m' ∧ k ≤ n ∧ Le M M1 ∧ Inv k M1 X1 ∧ D = [] ∧ L1 = (x0, .cells #[.slice A n c] 169 (0, 0)) :: X1 ∧ F = [(0, .func (.yield l) #[] #[]), (1, .pointer (some ⟨x0, 0, none⟩)), (3, .int .i64 ((k : Int) - 1))]) (n) (F0 := [(0, _), (1, _), (3, _)]) ?_ (cs3 rfl rfl rfl) ?_
 ·
  exact ⟨n, X0, rfl, by omega, Le.refl _, h0, rfl, rfl, rfl⟩
 rintro m _ _ M1 L1 ⟨k, X1, rfl, hk, hM1, hI, rfl, rfl, rfl⟩
 refine zr2 <| mvI rfl <| tl_y rfl (y_geq rfl rfl) <| zq <| x_cond rfl (fun hc1 => ?_) (fun hc1 => ?_)
 ·
  obtain ⟨k, rfl⟩ : ∃ j, k = j + 1 := ⟨k - 1, by omega⟩
  obtain ⟨t, ht⟩ : ∃ t, ts[k]? = some t := ⟨_, List.getElem?_eq_getElem (by omega)⟩
  obtain ⟨g, o, rfl, hcell⟩ := (hr.mono hM1).cellsN (by omega)
  have hc2 := fun L => hcell L (k * 4) 4 (by rw [trow, flat_len tcl]; omega)
  simp only [trow, flat_take tcl ts k t ht] at hc2
  have e0 : (((k + 1 : Nat) : Int) - 1) = (k : Int) := by omega
  rw [e0]
  refine x_skip <| .then_normal <| x_seq <| x_block <| zr <| mvF rfl <| mvI rfl <| tLd rfl rfl <| mvI rfl <| tl_y rfl (y_indexAddr rfl rfl (by omega)) <| tl_y rfl (y_loadAgg rfl rfl (.at_ (hc2 _) (by omega))) <| tl_e rfl <| e_yieldB (R := [(x0, .cells #[.slice (some ⟨g, o, none⟩) n c] 169 (0, 0))]) (X := X1) rfl rfl (hy k M1 X1 t ht hM1 hI) <| fun b M2 X2 hM2 hb => ?_
  rw [List.singleton_append]
  refine tl_y rfl (y_not rfl) <| zq <| .s4 0 1 3 18 rfl rfl rfl rfl <| x_condb rfl (fun hc2 => ?_) (fun hc2 => ?_)
  ·
   refine x_ret (.block_ret (.then_ret (.loop_ret (.block_ret (ret0 rfl (hM1.trans hM2) ⟨X2, rfl, by
    rcases hb with ⟨rfl, _⟩ | ⟨_, hb⟩
    ·
     simp at hc2
    exact .inr hb⟩)))))
  refine x_skip <| .block_normal <| .then_normal <| x_region <| mvI rfl <| tl_y rfl (y_subI rfl rfl (by omega)) <| asI rfl <| tl_nil <| .loop_next (m' := k) (by omega) (F' := [(0, _), (1, _), (3, _)]) (cs3 rfl rfl rfl) ?_
  exact ⟨k, X2, rfl, by omega, hM1.trans hM2, by
   rcases hb with ⟨_, hb⟩ | ⟨rfl, hb⟩
   ·
    exact hb
   simp at hc2, rfl, rfl, rfl⟩
 refine x_exit (.then_exit (.loop_exit (.block_exit (end0 rfl hM1 ⟨X1, rfl, .inl (by
  obtain rfl : k = 0 := by omega
  exact hI)⟩))))
end
end Go.Proofs.YtplkoemjffplcaaGreatDoor
