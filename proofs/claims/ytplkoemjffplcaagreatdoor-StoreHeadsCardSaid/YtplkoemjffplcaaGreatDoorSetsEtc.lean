/-
Contracts of functions, each proved by a walk through its code.
-/
import Derived.Test.YtplkoemjffplcaaGreatDoorOctEtc
import Derived.Test.YtplkoemjffplcaaGreatDoorBaseEtc
import Derived.Test.YtplkoemjffplcaaGreatDoorEngSEtc
import Derived.Test.YtplkoemjffplcaaGreatDoorEngWEtc
import Derived.Test.YtplkoemjffplcaaGreatDoorEngIEtc
set_option linter.all false
namespace Go.Proofs.YtplkoemjffplcaaGreatDoor
open Go Go.Eng
section
variable {G : World} {M : Mem} {L : Own}
theorem shr8N (x : Nat) : Int.fdiv (x : Int) (2 ^ (min (Int.toNat 8) IntKind.u64.bits)) = ((x / 256 : Nat) : Int) := by
 show Int.fdiv (x : Int) 256 = _
 rw [Int.fdiv_eq_ediv_of_nonneg _ (by decide)]; omega
theorem len64_spec (x : Nat) (hx : x < 65536) :
  Con Tryz.prog 212 #[.int .u64 (x : Int)] G M L (fun v M' L' => M = M' ∧ L = L' ∧ v = .int .i64 (lenT x : Nat)) noPanic := by
 refine zfn Tryz.func212 rfl 25 rfl <| zr <| as0 rfl <| zq <| zr2 <| mvI rfl <| tl_y rfl (y_geq rfl rfl) <| zq <| x_false rfl (by rw [decide_eq_false]; omega) <| x_skip <| .then_normal <| zr2 <| mvI rfl <| tl_y rfl (y_geq rfl rfl) <| zq <| x_false rfl (by rw [decide_eq_false]; omega) <| x_skip <| .then_normal <| .s2 0 2 rfl rfl <| zr2 <| mvI rfl <| tl_y rfl (y_geq rfl rfl) <| zq <| x_cond rfl (fun hc3 => ?_) (fun hc3 => ?_)
 ·
  have ht := t8_le (x / 256) (by omega)
  refine zr <| mvI rfl <| tl_y rfl (y_shr rfl rfl (by omega)) ?_
  rw [shr8N]
  refine asI rfl <| zq <| .s2 0 2 rfl rfl <| x_region <| mvI rfl <| tl_y rfl (y_addI rfl rfl (by omega)) <| asI rfl <| zq <| zr <| mvI rfl <| mvI rfl <| tl_y rfl (y_convN8 rfl (by omega)) <| tl_y rfl (y_indexStr rfl rfl (by omega) (by rw [Int.toNat_natCast]; exact all256 (p := fun i => _ = some (UInt8.ofNat (t8 i))) (by decide +kernel) (x / 256) (by omega))) ?_
  rw [show (UInt8.ofNat (t8 (x / 256))).toNat = t8 (x / 256) by rw [UInt8.toNat_ofNat']; omega]
  refine tl_y rfl (y_convI rfl (by omega)) <| tl_y rfl (y_addI rfl rfl (by omega)) <| asI rfl <| zq <| .s1 2 rfl <| x_ret (ret1 rfl rfl lR ⟨rfl, rfl, by
   rw [lenT, if_pos (by omega)]; rfl⟩)
 have ht := t8_le x (by omega)
 refine x_skip <| .then_normal <| zr <| mvI rfl <| mvI rfl <| tl_y rfl (y_convN8 rfl (by omega)) <| tl_y rfl (y_indexStr rfl rfl (by omega) (by rw [Int.toNat_natCast]; exact all256 (p := fun i => _ = some (UInt8.ofNat (t8 i))) (by decide +kernel) x (by omega))) ?_
 rw [show (UInt8.ofNat (t8 x)).toNat = t8 x by rw [UInt8.toNat_ofNat']; omega]
 refine tl_y rfl (y_convI rfl (by omega)) <| tl_y rfl (y_addI rfl rfl (by omega)) <| asI rfl <| zq <| .s1 2 rfl <| x_ret (ret1 rfl rfl lR ⟨rfl, rfl, by
  rw [lenT, if_neg (by omega)]; congr 1; omega⟩)
theorem len_spec (x : Nat) (hx : x < 65536) :
  Con Tryz.prog 160 #[.int .u64 (x : Int)] G M L (fun v M' L' => M = M' ∧ L = L' ∧ v = .int .i64 (lenT x : Nat)) noPanic := by
 refine zfn Tryz.func160 rfl 8 rfl <| zr <| as0 rfl <| zq <| x_seq <| x_false rfl rfl <| x_skip <| .then_normal <| zr <| mvI rfl <| zca rfl (len64_spec x hx) ?_
 rintro _ _ _ _ ⟨rfl, rfl, rfl⟩
 refine asI rfl <| zq <| x_ret (ret1 rfl rfl lR ⟨rfl, rfl, rfl⟩)
theorem widths_spec :
  Con Tryz.prog 239 #[] G M L (fun v M' L' => M = M' ∧ L = L' ∧ v = .agg #[.int .i64 1, .int .i64 2, .int .i64 4, .int .i64 8]) noPanic := by
 refine zfn Tryz.func239 rfl 2 rfl <| zr <| tl_e rfl <| e_alloc <| fun b1 => zq <| zr <| tl_y rfl (y_buildArr rfl) <| tl_e rfl <| e_sT rfl rfl <| zq <| x_ret (retRV (L' := L) (rv1 rfl (rc_cellAgg (by rfl) rfl (.own iI iI))) iI lR ⟨rfl, rfl, rfl⟩)
theorem dMay_spec (w : Int) :
  Con Tryz.prog 191 #[.int .i64 w] G M L (fun v M' L' => L = L' ∧ v = .bool (decide (w ∈ [1, 2, 4, 8]))) noPanic := by
 refine zfn Tryz.func191 rfl 8 rfl <| zr <| as0 rfl <| zq <| zr <| zca rfl widths_spec ?_
 rintro _ _ _ _ ⟨rfl, rfl, rfl⟩
 refine tl_e rfl <| e_alloc <| fun b1 => tl_e rfl <| e_sT rfl rfl <| zq <| zr <| tl_y rfl (y_sliceArr rfl) <| mvI rfl <| .pub b1 iI <| fun M1 hM1 hb1 => ?_
 have hrow : Ints M1 (some ⟨b1, 0, none⟩) 4 4 [1, 2, 4, 8] := Row.whole hb1 rfl (by omega)
 refine zca rfl (containsInts_spec hrow w) ?_
 rintro _ _ _ _ ⟨rfl, rfl, rfl⟩
 refine asB rfl <| zq <| .s1 2 rfl <| x_ret (ret1 rfl rfl hM1 ⟨rfl, rfl⟩)
theorem isW_mem {w : Nat} (h : isW w) : decide (((w : Nat) : Int) ∈ ([1, 2, 4, 8] : List Int)) = true := by rcases h with rfl | rfl | rfl | rfl <;> rfl
theorem Shape_spec {n w : Nat} (hn : isN n) (hw : isW w) :
  Con Tryz.prog 146 #[.int .i64 (n : Int), .int .i64 (w : Int)] G M L (fun v M' L' => L = L' ∧ v = .tuple #[.int .i64 (shU n w : Nat), .int .i64 (shV n w : Nat), .int .i64 (shS n w : Nat)]) noPanic := by
 obtain ⟨h1, h2, h3, h4, h5, h6, h7, h8, h9, h10⟩ := shape_fact hn hw
 have hnb : 24 ≤ n ∧ n ≤ 32 := by rcases hn with rfl | rfl <;> omega
 have hu : (8 * (n : Int)) / (w : Int) = ((shU n w : Nat) : Int) := by rw [shU]; simp
 have hx : (((2 ^ w : Nat) : Int) - 1) * ((shU n w : Nat) : Int) = ((shX n w : Nat) : Int) := by
  rw [shX, show ((2 ^ w : Nat) : Int) - 1 = ((2 ^ w - 1 : Nat) : Int) by omega]; simp
 have hv : (((lenT (shX n w) : Nat) : Int) + (w : Int) - 1) / (w : Int) = ((shV n w : Nat) : Int) := by
  rw [shV, show ((lenT (shX n w) : Nat) : Int) + (w : Int) - 1 = ((lenT (shX n w) + w - 1 : Nat) : Int) by omega]; simp
 have hs : ((shV n w : Nat) : Int) * (w : Int) = ((shV n w * w : Nat) : Int) := by simp
 refine zfn Tryz.func146 rfl 42 rfl <| zr <| as0 rfl <| as0 rfl <| as0 rfl <| zq <| zr2 <| mvI rfl <| tl_y rfl (y_lss rfl rfl) <| mvB rfl <| tl_set (s := 11) (u := .bool false) rfl (by rw [decide_eq_false]; omega) <| mvI rfl <| tl_y rfl (y_gtr rfl rfl) <| tPf rfl rfl <| mvB rfl <| tl_set (s := 15) (u := .bool false) rfl (by rw [decide_eq_false]; omega) <| mvI rfl <| zca rfl (dMay_spec _) ?_
 rintro _ M1 _ hM1 ⟨rfl, rfl⟩
 rw [isW_mem hw]
 refine tl_y rfl (y_not rfl) <| tPf rfl rfl <| zq <| .s3 0 1 19 rfl rfl rfl <| x_false rfl (rfl) <| x_skip <| .then_normal <| zr <| mvI rfl <| tl_y rfl (y_mulI rfl rfl (by omega)) <| mvI rfl <| tl_y rfl (y_quoI rfl rfl (by omega)) ?_
 rw [hu]
 refine asI rfl <| zq <| .s2 1 7 rfl rfl <| zr <| mvI rfl <| tl_y rfl (y_shl rfl rfl (by omega)) ?_
 rw [shl1_w hw]
 refine tl_y rfl (y_subI rfl rfl (by omega)) <| mvI rfl <| tl_y rfl (y_mulI rfl rfl (by rw [hx]; omega)) ?_
 rw [hx]
 refine tl_y rfl (y_convN64 rfl (by omega)) ?_
 refine zca rfl (len_spec (shX n w) h2) ?_
 rintro _ _ _ _ ⟨rfl, rfl, rfl⟩
 refine mvI rfl <| tl_y rfl (y_addI rfl rfl (by omega)) <| tl_y rfl (y_subI rfl rfl (by omega)) <| mvI rfl <| tl_y rfl (y_quoI rfl rfl (by omega)) ?_
 rw [hv]
 refine asI rfl <| zq <| .s3 1 7 8 rfl rfl rfl <| zr <| mvI rfl <| mvI rfl <| mvI rfl <| mvI rfl <| tl_y rfl (y_mulI rfl rfl (by rw [hs]; omega)) ?_
 rw [hs]
 refine tl_y rfl (y_subI rfl rfl (by omega)) ?_
 rw [show (16 : Int) - ((shV n w * w : Nat) : Int) = ((shS n w : Nat) : Int) by rw [shS]; omega]
 refine asI rfl <| asI rfl <| asI rfl <| zq <| .s3 4 5 6 rfl rfl rfl <| x_ret (ret3 rfl rfl rfl rfl hM1 ⟨rfl, rfl⟩)
structure SetG (M : Mem) : Prop where
 sums : ∃ T fr, M 3 = some (.cells #[.int .i64 0, .int .i64 32, .int .i64 0, .int .i64 24, .int .i64 1, .int .i64 32, .int .i64 1, .int .i64 24] T fr)
 widths : ∃ T fr, M 0 = some (.cells #[.int .i64 1, .int .i64 2, .int .i64 4, .int .i64 8] T fr)
theorem SetG.mono {M M' : Mem} (h : SetG M) (hle : Le M M') : SetG M' := ⟨let ⟨T, fr, a⟩ := h.sums; ⟨T, fr, hle _ _ a⟩, let ⟨T, fr, a⟩ := h.widths; ⟨T, fr, hle _ _ a⟩⟩
structure SetT (M : Mem) : Prop where
 sums : ∃ T fr, M 3 = some (.cells #[.int .i64 0, .int .i64 32, .int .i64 0, .int .i64 24, .int .i64 1, .int .i64 32, .int .i64 1, .int .i64 24] T fr)
 heights : ∃ T fr, M 2 = some (.cells #[.int .i64 5, .int .i64 10, .int .i64 15, .int .i64 20, .int .i64 25] T fr)
 own : ∃ T fr, M 1 = some (.cells #[.int .i64 1, .int .i64 2, .int .i64 3, .int .i64 4] T fr)
theorem SetT.mono {M M' : Mem} (h : SetT M) (hle : Le M M') : SetT M' :=
 ⟨let ⟨T, fr, a⟩ := h.sums; ⟨T, fr, hle _ _ a⟩, let ⟨T, fr, a⟩ := h.heights; ⟨T, fr, hle _ _ a⟩, let ⟨T, fr, a⟩ := h.own; ⟨T, fr, hle _ _ a⟩⟩
def unkv : Value := .iface 273 (.agg #[])
def unks : List PanicEntry := [{ v := unkv, recovered := false }]
theorem sums_at (j : Nat) (h : j < 4) : CutAt [Value.int .i64 0, .int .i64 32, .int .i64 0, .int .i64 24, .int .i64 1, .int .i64 32, .int .i64 1, .int .i64 24] (j * 2) 2 [.int .i64 ((j / 2 : Nat) : Int), .int .i64 ((szN j : Nat) : Int)] := by
 refine ⟨fun i v hi => ?_, rfl⟩
 rcases (by omega : j = 0 ∨ j = 1 ∨ j = 2 ∨ j = 3) with rfl | rfl | rfl | rfl <;> (match i, hi with | 0, hi => exact hi | 1, hi => exact hi | i + 2, hi => simp at hi)
theorem CellsN.ro {M : Mem} {L : Own} {b i n : Nat} {c vs : List Value} {T : TypeId} {fr : Nat × Nat} (hM : M b = some (.cells c.toArray T fr)) (hg : CutAt c i n vs) : CellsN M L ⟨b, i, none⟩ n vs := by
 refine ⟨fun w hw j v hj => ?_, hg.len⟩
 have := hg.cut j v hj
 have h2 := hw.ro _ _ hM
 simp [World.cell?, h2, this, add_plain]
theorem setsAt_spec (hs0 : ∃ T fr, M 3 = some (.cells #[.int .i64 0, .int .i64 32, .int .i64 0, .int .i64 24, .int .i64 1, .int .i64 32, .int .i64 1, .int .i64 24] T fr)) (code first : UInt32) (each : Nat) (he : 4 ≤ each ∧ each ≤ 5) :
  Con Tryz.prog 145 #[.int .u32 (code.toNat : Int), .int .u32 (first.toNat : Int), .int .i64 (each : Int)] G M L
   (fun v M' L' => M = M' ∧ L' = L ∧ first.toNat ≤ code.toNat ∧ code.toNat - first.toNat < each * 4 ∧ v = .tuple #[.agg #[.int .i64 (((code.toNat - first.toNat) / each / 2 : Nat) : Int), .int .i64 ((szN ((code.toNat - first.toNat) / each) : Nat) : Int)], .int .i64 (((code.toNat - first.toNat) % each : Nat) : Int)])
   (fun ch M' L' => M = M' ∧ L' = L ∧ ¬ (first.toNat ≤ code.toNat ∧ code.toNat - first.toNat < each * 4) ∧ ch = unks) := by
 have hc := code.toNat_lt
 have hf := first.toNat_lt
 obtain ⟨st, sf, hs⟩ := hs0
 refine zfn Tryz.func145 rfl 32 rfl <| zr <| tl_e rfl <| e_alloc <| fun b1 => as0 rfl <| zq <| zr <| mvI rfl <| tl_y rfl (y_convI rfl (by omega)) <| mvI rfl <| tl_y rfl (y_convI rfl (by omega)) <| tl_y rfl (y_subI rfl rfl (by omega)) <| asI rfl <| zq <| .s3 2 6 8 rfl rfl rfl <| zr2 <| mvI rfl <| tl_y rfl (y_lss rfl rfl) <| mvB rfl <| tl_cases (s := 16) rfl (fun hk1 => ?_) (fun hk1 => ?_)
 ·
  refine sk4 rfl rfl rfl rfl <| tPt rfl rfl <| zq <| .s4 2 6 8 21 rfl rfl rfl rfl <| x_true rfl rfl <| x_region <| tl_y rfl (y_build rfl) <| tl_y rfl (y_makeIface rfl (by intro _ h; cases h)) <| tl_e rfl (e_panic rfl (TP.dropTo L iI (.retA rfl lR ⟨rfl, rfl, by omega, rfl⟩)))
 obtain ⟨q, hq⟩ : ∃ q : Nat, (code.toNat : Int) - (first.toNat : Int) = (q : Int) := ⟨code.toNat - first.toNat, by omega⟩
 rw [hq] at hk1 ⊢
 refine mvI rfl <| mvI rfl <| tl_y rfl (y_mulI rfl rfl (by omega)) <| tl_y rfl (y_geq rfl rfl) <| tPf rfl rfl <| zq <| .s4 2 6 8 21 rfl rfl rfl rfl <| x_cond rfl (fun hc1 => ?_) (fun hc1 => ?_)
 ·
  refine x_region <| tl_y rfl (y_build rfl) <| tl_y rfl (y_makeIface rfl (by intro _ h; cases h)) <| tl_e rfl (e_panic rfl (TP.dropTo L iI (.retA rfl lR ⟨rfl, rfl, by omega, rfl⟩)))
 have hqe : q / each < 4 := (Nat.div_lt_iff_lt_mul (by omega)).2 (by omega)
 have e1 : (q : Int) / (each : Int) = ((q / each : Nat) : Int) := by simp
 have e2 : (q : Int) % (each : Int) = ((q % each : Nat) : Int) := by simp
 have hql := Nat.div_le_self q each
 obtain ⟨qe, hqd⟩ : ∃ qe, qe = q / each := ⟨_, rfl⟩
 rw [← hqd] at e1 hqe hql
 refine x_skip <| .then_normal <| x_seq <| x_draw 8 hmix rfl <| pmI 0 rfl rfl <| pmI 1 rfl rfl <| zp 2 rfl rfl (y_quoI rfl rfl (by omega)) ?_
 rw [e1]
 refine zp 3 rfl rfl (y_indexArr rfl rfl (by omega)) <| zy 4 rfl rfl (y_loadAgg rfl rfl (CellsN.at_ (CellsN.ro hs (sums_at qe hqe)) (by omega))) <| pmI 5 rfl rfl <| pmI 6 rfl rfl <| zp 7 rfl rfl (y_remI rfl rfl (by omega)) ?_
 rw [e2]
 refine zt 8 rfl rfl <| e_sT rfl rfl <| paI 9 rfl rfl <| zz <| .then_normal <| .s2 6 7 rfl rfl <| x_ret (retRV (L' := L) (rv2 rfl (rc_cellAgg (by rfl) rfl (.own iI iI)) (rc_tmp (by rfl))) iI lR ⟨rfl, rfl, by omega, by omega, by rw [show code.toNat - first.toNat = q by omega, ← hqd]⟩)
end
theorem widths_get (j : Nat) (h : j < 4) : [Value.int .i64 1, .int .i64 2, .int .i64 4, .int .i64 8][j]? = some (.int .i64 ((2 ^ j : Nat) : Int)) := by
 rcases (by omega : j = 0 ∨ j = 1 ∨ j = 2 ∨ j = 3) with rfl | rfl | rfl | rfl <;> rfl
theorem heights_get (j : Nat) (h : j < 5) : [Value.int .i64 5, .int .i64 10, .int .i64 15, .int .i64 20, .int .i64 25][j]? = some (.int .i64 ((5 * (1 + j) : Nat) : Int)) := by
 rcases (by omega : j = 0 ∨ j = 1 ∨ j = 2 ∨ j = 3 ∨ j = 4) with rfl | rfl | rfl | rfl | rfl <;> rfl
theorem own_get (j : Nat) (h : j < 4) : [Value.int .i64 1, .int .i64 2, .int .i64 3, .int .i64 4][j]? = some (.int .i64 ((1 + j : Nat) : Int)) := by
 rcases (by omega : j = 0 ∨ j = 1 ∨ j = 2 ∨ j = 3) with rfl | rfl | rfl | rfl <;> rfl
section
variable {G : World} {M : Mem} {L : Own}
abbrev cOB (b : Nat) (o : OtsV) : Nat × Obj := (b, .cells (List.toArray o.cells) 103 (0, 0))
theorem caughtO1_ret {b c : Nat} {x : Int} {o : OtsV} : ConD Tryz.prog 190 #[.pointer (some ⟨b, 0, none⟩), .pointer (some ⟨c, 0, none⟩)] .returning G M ((c, .cells #[.int .i64 x] 25 (0, 0)) :: cOB b o :: L) (fun u' M' L' => u' = .returning ∧ M' = M ∧ L' = (c, .cells #[.int .i64 x] 25 (0, 0)) :: cOB b o :: L) := by
 refine enterRec (args := [_, _]) (fn := Tryz.f190) ⟨Tryz.func190, rfl, by kernel_rfl, by kernel_rfl⟩ 13 rfl rfl <| x_block <| zr <| tl_y rfl (y_eqNilIface rfl rfl) <| zq <| x_true rfl (rfl) <| x_region <| as0 rfl <| tl_nil (.block_normal (.rec_normal lR ⟨rfl, rfl, rfl⟩))
theorem caughtO1_unk {b c : Nat} {x : Int} {o : OtsV} : ConD Tryz.prog 190 #[.pointer (some ⟨b, 0, none⟩), .pointer (some ⟨c, 0, none⟩)] (.panicking unks) G M ((c, .cells #[.int .i64 x] 25 (0, 0)) :: cOB b o :: L)
  (fun u' M' L' => u' = .panicking [{ v := unkv, recovered := true }] ∧ M' = M ∧ L' = (c, .cells #[.int .i64 4] 25 (0, 0)) :: cOB b ots0 :: L) := by
 refine enterRec (args := [_, _]) (fn := Tryz.f190) ⟨Tryz.func190, rfl, by kernel_rfl, by kernel_rfl⟩ 13 rfl rfl <| x_block <| zr <| tl_y rfl (y_eqIfaceNil rfl rfl) <| zq <| x_false rfl (rfl) <| zr <| tl_y rfl (y_assertOk rfl (by intro _ h; cases h)) <| zx rfl <| zx rfl <| zq <| x_true rfl (rfl) <| zr <| tl_e rfl <| e_alloc <| fun b1 => tl_e rfl <| e_sT rfl rfl <| zq <| .s2 0 1 rfl rfl <| zr <| tl_e rfl <| e_alloc <| fun b2 => zq <| x_region <| tLg rfl rfl <| tl_e rfl <| e_sT rfl rfl <| tl_e rfl <| e_sT rfl rfl <| tl_nil (.block_normal (.dropTo ((c, .cells #[.int .i64 4] 25 (0, 0)) :: (b, .cells #[.int .u32 0, .int .i64 0, .int .i64 0, .int .i64 0, .int .i64 0, .int .i64 0] 103 (0, 0)) :: L) iI (.rec_normal lR ⟨rfl, rfl, rfl⟩)))
theorem caughtO_spec {wf : FuncId} {first cap : List Value} {r : Option OtsV}
  (hw : ∀ p q, Con Tryz.prog wf (first ++ [] ++ cap).toArray G M (p :: q :: L) (fun v M' L' => L' = p :: q :: L ∧ ∃ o, r = some o ∧ v = .agg (List.toArray o.cells)) (fun ch M' L' => L' = p :: q :: L ∧ r = none ∧ ch = unks)) :
  Con Tryz.prog 143 #[.func (.func wf) first.toArray cap.toArray] G M L (fun v M' L' => L = L' ∧ v = .tuple #[.agg (List.toArray (r.getD ots0).cells), .int .i64 (if r.isSome then 0 else 4)]) noPanic := by
 refine enterD (args := [_]) (fn := Tryz.f143) ⟨Tryz.func143, rfl, by kernel_rfl, by kernel_rfl⟩ 7 rfl <| zr <| tl_e rfl <| e_alloc <| fun b1 => tl_e rfl <| e_alloc <| fun b2 => zq <| zr <| tl_y rfl (y_makeFunc rfl rfl) <| tl_e rfl <| e_defer rfl rfl rfl <| zq <| zr <| mvF rfl <| tl_e rfl (e_callv rfl rfl (hw _ _) (by
  rintro _ M1 _ hM1 ⟨rfl, hr, rfl⟩
  refine .retD (cap := [_, _]) (args := []) (caughtO1_unk (o := ots0)) ?_
  rintro _ M2 _ hM2 ⟨rfl, rfl, rfl⟩
  exact .inl ⟨rfl, _, L, rv2 rfl (rc_cellAgg (by rfl) rfl (.own iI iI)) (rc_cell (by rfl) rfl (.own iI iI)), iI, hM1, rfl, by rw [hr]; rfl⟩) ?_)
 rintro _ M1 _ hM1 ⟨rfl, o, hr, rfl⟩
 refine tl_e rfl <| e_sT rfl rfl <| tl_e rfl <| e_sT rfl rfl <| zq <| .s2 2 3 rfl rfl <| x_ret <| .retD (cap := [_, _]) (args := []) (caughtO1_ret (o := o)) ?_
 rintro _ M2 _ hM2 ⟨rfl, rfl, rfl⟩
 exact .inl ⟨rfl, _, L, rv2 rfl (rc_cellAgg (by rfl) rfl (.own iI iI)) (rc_cell (by rfl) rfl (.own iI iI)), iI, hM1, rfl, by rw [hr]; rfl⟩
abbrev cTB (b : Nat) (o : TreeV) : Nat × Obj := (b, .cells (List.toArray o.cells) 105 (0, 0))
theorem caughtT1_ret {b c : Nat} {x : Int} {o : TreeV} : ConD Tryz.prog 238 #[.pointer (some ⟨b, 0, none⟩), .pointer (some ⟨c, 0, none⟩)] .returning G M ((c, .cells #[.int .i64 x] 25 (0, 0)) :: cTB b o :: L) (fun u' M' L' => u' = .returning ∧ M' = M ∧ L' = (c, .cells #[.int .i64 x] 25 (0, 0)) :: cTB b o :: L) := by
 refine enterRec (args := [_, _]) (fn := Tryz.f238) ⟨Tryz.func238, rfl, by kernel_rfl, by kernel_rfl⟩ 13 rfl rfl <| x_block <| zr <| tl_y rfl (y_eqNilIface rfl rfl) <| zq <| x_true rfl (rfl) <| x_region <| as0 rfl <| tl_nil (.block_normal (.rec_normal lR ⟨rfl, rfl, rfl⟩))
theorem caughtT1_unk {b c : Nat} {x : Int} {o : TreeV} : ConD Tryz.prog 238 #[.pointer (some ⟨b, 0, none⟩), .pointer (some ⟨c, 0, none⟩)] (.panicking unks) G M ((c, .cells #[.int .i64 x] 25 (0, 0)) :: cTB b o :: L)
  (fun u' M' L' => u' = .panicking [{ v := unkv, recovered := true }] ∧ M' = M ∧ L' = (c, .cells #[.int .i64 4] 25 (0, 0)) :: cTB b tree0 :: L) := by
 refine enterRec (args := [_, _]) (fn := Tryz.f238) ⟨Tryz.func238, rfl, by kernel_rfl, by kernel_rfl⟩ 13 rfl rfl <| x_block <| zr <| tl_y rfl (y_eqIfaceNil rfl rfl) <| zq <| x_false rfl (rfl) <| zr <| tl_y rfl (y_assertOk rfl (by intro _ h; cases h)) <| zx rfl <| zx rfl <| zq <| x_true rfl (rfl) <| zr <| tl_e rfl <| e_alloc <| fun b1 => tl_e rfl <| e_sT rfl rfl <| zq <| .s2 0 1 rfl rfl <| zr <| tl_e rfl <| e_alloc <| fun b2 => zq <| x_region <| tLg rfl rfl <| tl_e rfl <| e_sT rfl rfl <| tl_e rfl <| e_sT rfl rfl <| tl_nil (.block_normal (.dropTo ((c, .cells #[.int .i64 4] 25 (0, 0)) :: (b, .cells #[.int .u32 0, .int .i64 0, .int .i64 0, .int .i64 0] 105 (0, 0)) :: L) iI (.rec_normal lR ⟨rfl, rfl, rfl⟩)))
theorem caughtT_spec {wf : FuncId} {first cap : List Value} {r : Option TreeV}
  (hw : ∀ p q, Con Tryz.prog wf (first ++ [] ++ cap).toArray G M (p :: q :: L) (fun v M' L' => L' = p :: q :: L ∧ ∃ o, r = some o ∧ v = .agg (List.toArray o.cells)) (fun ch M' L' => L' = p :: q :: L ∧ r = none ∧ ch = unks)) :
  Con Tryz.prog 187 #[.func (.func wf) first.toArray cap.toArray] G M L (fun v M' L' => L = L' ∧ v = .tuple #[.agg (List.toArray (r.getD tree0).cells), .int .i64 (if r.isSome then 0 else 4)]) noPanic := by
 refine enterD (args := [_]) (fn := Tryz.f187) ⟨Tryz.func187, rfl, by kernel_rfl, by kernel_rfl⟩ 7 rfl <| zr <| tl_e rfl <| e_alloc <| fun b1 => tl_e rfl <| e_alloc <| fun b2 => zq <| zr <| tl_y rfl (y_makeFunc rfl rfl) <| tl_e rfl <| e_defer rfl rfl rfl <| zq <| zr <| mvF rfl <| tl_e rfl (e_callv rfl rfl (hw _ _) (by
  rintro _ M1 _ hM1 ⟨rfl, hr, rfl⟩
  refine .retD (cap := [_, _]) (args := []) (caughtT1_unk (o := tree0)) ?_
  rintro _ M2 _ hM2 ⟨rfl, rfl, rfl⟩
  exact .inl ⟨rfl, _, L, rv2 rfl (rc_cellAgg (by rfl) rfl (.own iI iI)) (rc_cell (by rfl) rfl (.own iI iI)), iI, hM1, rfl, by rw [hr]; rfl⟩) ?_)
 rintro _ M1 _ hM1 ⟨rfl, o, hr, rfl⟩
 refine tl_e rfl <| e_sT rfl rfl <| tl_e rfl <| e_sT rfl rfl <| zq <| .s2 2 3 rfl rfl <| x_ret <| .retD (cap := [_, _]) (args := []) (caughtT1_ret (o := o)) ?_
 rintro _ M2 _ hM2 ⟨rfl, rfl, rfl⟩
 exact .inl ⟨rfl, _, L, rv2 rfl (rc_cellAgg (by rfl) rfl (.own iI iI)) (rc_cell (by rfl) rfl (.own iI iI)), iI, hM1, rfl, by rw [hr]; rfl⟩
theorem Ots1_spec (hg : SetG M) (code : UInt32) {b : Nat} [hb : Has L b (.cells #[.int .u32 (code.toNat : Int)] 61 (0, 0))] :
  Con Tryz.prog 144 #[.pointer (some ⟨b, 0, none⟩)] G M L (fun v M' L' => L' = L ∧ ∃ o, otsOf code = some o ∧ v = .agg (List.toArray o.cells)) (fun ch M' L' => L' = L ∧ otsOf code = none ∧ ch = unks) := by
 have hc := code.toNat_lt
 have h1 : (1 : UInt32).toNat = 1 := rfl
 obtain ⟨wt, wf, hw⟩ := hg.widths
 refine zfn Tryz.func144 rfl 35 rfl <| zr <| tl_e rfl <| e_alloc <| fun b1 => zq <| zr <| tLd rfl rfl <| tl_e rfl (e_call rfl (setsAt_spec hg.sums code 1 4 (by omega)) (by
  rintro _ _ _ _ ⟨rfl, rfl, hne, rfl⟩
  exact TP.dropTo L iI (.retA rfl lR ⟨rfl, by rw [otsOf, if_neg (by omega)], rfl⟩)) ?_)
 rintro _ _ _ _ ⟨rfl, rfl, hle, hlt, rfl⟩
 rw [h1] at hle hlt ⊢
 obtain ⟨i, hi⟩ : ∃ i, i = code.toNat - 1 := ⟨_, rfl⟩
 rw [← hi] at hlt ⊢
 have hi4 : i % 4 < 4 := Nat.mod_lt _ (by omega)
 obtain ⟨s1, s2, s3, s4, s5, s6, s7, s8, s9, s10⟩ := shape_fact (szN_is (i / 4)) (w_is i)
 refine mvU rfl <| zx rfl <| zx rfl <| tl_e rfl <| e_alloc <| fun b2 => tl_e rfl <| e_sT rfl rfl <| asI rfl <| zq <| .s4 0 1 2 3 rfl rfl rfl rfl <| x_seq <| x_draw 13 hmix rfl ?_
 refine pFa 0 rfl rfl <| pLd 1 rfl rfl rfl <| pmI 2 rfl rfl <| zp 3 rfl rfl (y_indexArr rfl rfl (by omega)) <| zy 4 rfl rfl (y_load rfl rfl (.at_ (.ro (i := i % 4) hw (by rw [List.getElem?_toArray]; exact widths_get _ hi4)) (by omega))) ?_
 refine ze 5 rfl rfl <| e_call' rfl (Shape_spec (szN_is (i / 4)) (w_is i)) ?_
 rintro _ M1 _ hM1 ⟨rfl, rfl⟩
 refine kp ?_
 refine pmU 6 rfl rfl <| zp 7 rfl rfl (y_extract rfl) <| zp 8 rfl rfl (y_extract rfl) <| zp 9 rfl rfl (y_extract rfl) <| paI 10 rfl rfl <| paI 11 rfl rfl <| paI 12 rfl rfl <| zz <| .then_normal <| .s7 0 1 2 3 4 5 6 rfl rfl rfl rfl rfl rfl rfl <| x_seq ?_
 refine x_draw 13 hmix rfl <| pLd 0 rfl rfl rfl <| pFa 1 rfl rfl <| pLd 2 rfl rfl rfl <| pFa 3 rfl rfl <| pLd 4 rfl rfl rfl <| pmI 5 rfl rfl <| zp 6 rfl rfl (y_indexArr rfl rfl (by omega)) <| zy 7 rfl rfl (y_load rfl rfl (.at_ (.ro (i := i % 4) (hM1 _ _ hw) (by rw [List.getElem?_toArray]; exact widths_get _ hi4)) (by omega))) ?_
 refine pmI 8 rfl rfl <| pmI 9 rfl rfl <| zp 10 rfl rfl (y_addI rfl rfl (by omega)) <| pmI 11 rfl rfl <| zp 12 rfl rfl (y_build rfl) <| zt 13 rfl rfl <| e_sT rfl rfl <| zz <| .then_normal <| .s1 1 rfl <| x_ret (retRV (L' := L) (rv1 rfl (rc_cellAgg (by rfl) rfl (.own iI iI))) iI hM1 ⟨rfl, otsT i, by rw [otsOf, if_pos (by omega), hi], by
  rw [otsT]
  show _ = Value.agg #[.int .u32 ((UInt32.ofNat (i + 1)).toNat : Int), _, _, _, _, _]
  rw [show (UInt32.ofNat (i + 1)).toNat = code.toNat by rw [UInt32.toNat_ofNat']; omega, show i / 4 / 2 = i / 8 by omega]
  rfl⟩)
theorem Ots_spec (hg : SetG M) (code : UInt32) :
  Con Tryz.prog 99 #[.int .u32 (code.toNat : Int)] G M L (fun v M' L' => L = L' ∧ v = .tuple #[.agg (List.toArray (otsV code).cells), .int .i64 (otsE code)]) noPanic := by
 refine zfn Tryz.func99 rfl 8 rfl <| zr <| tl_e rfl <| e_box rfl <| fun b1 => tl_e rfl <| e_alloc <| fun b2 => as0 rfl <| zq <| zr <| tl_y rfl (y_makeFunc rfl rfl) <| zca rfl (caughtO_spec (r := otsOf code) (first := []) (cap := [.pointer (some ⟨b1, 0, none⟩)]) (fun p q => Ots1_spec hg code)) ?_
 rintro _ M1 _ hM1 ⟨rfl, rfl⟩
 refine zx rfl <| zx rfl <| tl_e rfl <| e_sT rfl rfl <| asI rfl <| zq <| .s2 2 3 rfl rfl <| x_ret (retRV (L' := L) (rv2 rfl (rc_cellAgg (by rfl) rfl (.own iI iI)) (rc_tmp (by rfl))) iI hM1 ⟨rfl, rfl⟩)
end
def csum (kind n : Int) (text : List UInt8) : List UInt8 := if kind = 0 then (sha text).take n.toNat else shk text n.toNat
def cSum (kind n : Int) (text : List UInt8) : List UInt8 := if okC kind n then csum kind n text else []
theorem csum_length {kind n : Int} (h : okC kind n) (text : List UInt8) (hs : (sha text).length = 32) : (csum kind n text).length = n.toNat := by
 unfold csum
 rcases h with ⟨_, h | h⟩ <;> subst h <;> split
 ·
  rw [List.length_take, hs]; rfl
 ·
  exact shk_length _ (by decide)
 ·
  rw [List.length_take, hs]; rfl
 exact shk_length _ (by decide)
section
variable {G : World} {M : Mem} {L : Own}
def wrongcv : Value := .iface 340 (.agg #[])
def wrongc : List PanicEntry := [{ v := wrongcv, recovered := false }]
theorem cmust_spec (t : Bool) :
  Con Tryz.prog 248 #[.bool t] G M L (fun v M' L' => M = M' ∧ L = L' ∧ t = true) (fun ch M' L' => M = M' ∧ L = L' ∧ t = false ∧ ch = wrongc) := by
 refine zfn Tryz.func248 rfl 6 rfl <| zr <| mvB rfl <| tl_y rfl (y_not rfl) <| zq <| x_condb rfl (fun hc1 => ?_) (fun hc1 => ?_)
 ·
  refine x_region <| tl_y rfl (y_build rfl) <| tl_y rfl (y_makeIface rfl (by intro _ h; cases h)) <| tl_e rfl (e_panic rfl (.ret lR ⟨rfl, rfl, by simpa using hc1, rfl⟩))
 refine x_skip (end0 rfl lR ⟨rfl, rfl, by simpa using hc1⟩)
theorem csum_spec (hg : ShaG M) (hk : KecG M) (kind n : Int) {A : Option Addr} {m c : Nat} {vs : List Value} {bss : List (List UInt8)} (h : Row M 1 A m c vs) (hb : BRows M vs bss) (hn : bss.flatten.length ≤ 1099511627776) :
  Con Tryz.prog 258 #[.int .i64 kind, .int .i64 n, .slice A m c] G M L (fun v M' L' => L' = L ∧ okC kind n ∧ ∃ A' c', v = .slice A' n.toNat c' ∧ Bytes M' A' n.toNat c' (csum kind n bss.flatten)) (fun ch M' L' => L' = L ∧ ¬ okC kind n ∧ ch = wrongc) := by
 refine zfn Tryz.func258 rfl 35 rfl <| zr <| as0 rfl <| zq <| x_join (I := fun F D M1 L1 => okC kind n ∧ D = [] ∧ M = M1 ∧ L = L1 ∧ F = [(0, .int .i64 kind), (1, .int .i64 n), (2, .slice A m c)]) ?_ (fun Jq1 => ?_)
 ·
  rintro _ _ _ _ ⟨hok, rfl, rfl, rfl, rfl⟩
  obtain ⟨n', rfl⟩ : ∃ n' : Nat, n = n' := ⟨n.toNat, by rcases hok.2 with rfl | rfl <;> rfl⟩
  have hnb : 24 ≤ n' ∧ n' ≤ 32 := by rcases hok.2 with h | h <;> omega
  refine zr <| mvS rfl <| zca rfl (Cat_spec h hb hn) ?_
  rintro _ M1 _ hM1 ⟨rfl, A1, c1, rfl, hA1⟩
  refine asS rfl <| zq <| zr2 <| mvI rfl <| tl_y rfl (y_eql rfl rfl) <| zq <| .s3 1 7 26 rfl rfl rfl <| x_cond rfl (fun hc1 => ?_) (fun hc1 => ?_)
  ·
   refine zr <| mvS rfl <| zca rfl (One_spec (hg.mono hM1) hA1 hn) ?_
   rintro _ M2 _ hM2 ⟨rfl, A2, c2, rfl, hA2⟩
   have hle2 := hA2.le
   refine mvI rfl <| mvI rfl <| tl_y rfl (y_slice3 rfl rfl rfl (by omega) (by omega)) <| asS rfl <| zq <| .s1 6 rfl <| x_ret (.then_ret (ret1 rfl rfl (hM1.trans hM2) ⟨rfl, hok, _, _, rfl, by
    have h1 := Bytes.take3 hA2 n' n' (by omega) (Nat.le_refl _) (by omega)
    rw [csum, if_pos hc1]; exact h1⟩))
  refine x_skip <| .then_normal <| zr <| mvS rfl <| mvI rfl <| zca rfl (ShSum_spec (hk.mono hM1) hA1 hn n' (by omega)) ?_
  rintro _ M2 _ hM2 ⟨A2, c2, rfl, hA2, rfl⟩
  refine asS rfl <| zq <| .s1 6 rfl <| x_ret (ret1 rfl rfl (hM1.trans hM2) ⟨rfl, hok, _, _, rfl, by rw [csum, if_neg hc1]; exact hA2⟩)
 refine x_region <| mvI rfl <| tl_y rfl (y_eql rfl rfl) <| mvB rfl <| tl_cases (s := 10) rfl (fun hk1 => ?_) (fun hk1 => ?_)
 ·
  refine sk2 rfl rfl <| tPt rfl rfl <| mvB rfl <| mvI rfl <| tl_y rfl (y_eql rfl rfl) <| mvB rfl <| tl_cases (s := 17) rfl (fun hk2 => ?_) (fun hk2 => ?_)
  ·
   refine sk2 rfl rfl <| tPt rfl rfl <| tPt rfl rfl <| tl_e rfl (e_call rfl (cmust_spec _) (by
    rintro _ _ _ _ ⟨rfl, rfl, ht, rfl⟩
    exact TP.dropTo L iI (.retA rfl lR ⟨rfl, by unfold okC; first | (cases ht; done) | (simp at ht; omega) | omega, rfl⟩)) ?_)
   rintro _ _ _ _ ⟨rfl, rfl, ht⟩
   refine zq <| .sub (F' := [(0, _), (1, _), (2, _)]) (cs3 rfl rfl rfl) <| Jq1 _ _ _ _ ?_
   exact ⟨by unfold okC; first | (cases ht; done) | (simp at ht; omega) | omega, rfl, rfl, rfl, rfl⟩
  refine mvI rfl <| tl_y rfl (y_eql rfl rfl) <| tPf rfl rfl <| tPt rfl rfl <| tl_e rfl (e_call rfl (cmust_spec _) (by
   rintro _ _ _ _ ⟨rfl, rfl, ht, rfl⟩
   exact TP.dropTo L iI (.retA rfl lR ⟨rfl, by unfold okC; first | (cases ht; done) | (simp at ht; omega) | omega, rfl⟩)) ?_)
  rintro _ _ _ _ ⟨rfl, rfl, ht⟩
  refine zq <| .sub (F' := [(0, _), (1, _), (2, _)]) (cs3 rfl rfl rfl) <| Jq1 _ _ _ _ ?_
  exact ⟨by unfold okC; first | (cases ht; done) | (simp at ht; omega) | omega, rfl, rfl, rfl, rfl⟩
 refine mvI rfl <| tl_y rfl (y_eql rfl rfl) <| tPf rfl rfl <| mvB rfl <| tl_cases (s := 14) rfl (fun hk3 => ?_) (fun hk3 => ?_)
 ·
  refine mvI rfl <| tl_y rfl (y_eql rfl rfl) <| mvB rfl <| tl_cases (s := 17) rfl (fun hk4 => ?_) (fun hk4 => ?_)
  ·
   refine sk2 rfl rfl <| tPt rfl rfl <| tPt rfl rfl <| tl_e rfl (e_call rfl (cmust_spec _) (by
    rintro _ _ _ _ ⟨rfl, rfl, ht, rfl⟩
    exact TP.dropTo L iI (.retA rfl lR ⟨rfl, by unfold okC; first | (cases ht; done) | (simp at ht; omega) | omega, rfl⟩)) ?_)
   rintro _ _ _ _ ⟨rfl, rfl, ht⟩
   refine zq <| .sub (F' := [(0, _), (1, _), (2, _)]) (cs3 rfl rfl rfl) <| Jq1 _ _ _ _ ?_
   exact ⟨by unfold okC; first | (cases ht; done) | (simp at ht; omega) | omega, rfl, rfl, rfl, rfl⟩
  refine mvI rfl <| tl_y rfl (y_eql rfl rfl) <| tPf rfl rfl <| tPt rfl rfl <| tl_e rfl (e_call rfl (cmust_spec _) (by
   rintro _ _ _ _ ⟨rfl, rfl, ht, rfl⟩
   exact TP.dropTo L iI (.retA rfl lR ⟨rfl, by unfold okC; first | (cases ht; done) | (simp at ht; omega) | omega, rfl⟩)) ?_)
  rintro _ _ _ _ ⟨rfl, rfl, ht⟩
  refine zq <| .sub (F' := [(0, _), (1, _), (2, _)]) (cs3 rfl rfl rfl) <| Jq1 _ _ _ _ ?_
  exact ⟨by unfold okC; first | (cases ht; done) | (simp at ht; omega) | omega, rfl, rfl, rfl, rfl⟩
 refine sk6 rfl rfl rfl rfl rfl rfl <| tPf rfl rfl <| tl_e rfl (e_call rfl (cmust_spec _) (by
  rintro _ _ _ _ ⟨rfl, rfl, ht, rfl⟩
  exact TP.dropTo L iI (.retA rfl lR ⟨rfl, by unfold okC; first | (cases ht; done) | (simp at ht; omega) | omega, rfl⟩)) ?_)
 rintro _ _ _ _ ⟨rfl, rfl, ht⟩
 refine zq <| .sub (F' := [(0, _), (1, _), (2, _)]) (cs3 rfl rfl rfl) <| Jq1 _ _ _ _ ?_
 exact ⟨by unfold okC; first | (cases ht; done) | (simp at ht; omega) | omega, rfl, rfl, rfl, rfl⟩
theorem caughtC1_ret {b : Nat} {o : Obj} : ConD Tryz.prog 271 #[.pointer (some ⟨b, 0, none⟩)] .returning G M ((b, o) :: L) (fun u' M' L' => u' = .returning ∧ M' = M ∧ L' = (b, o) :: L) := by
 refine enterRec (args := [_]) (fn := Tryz.f271) ⟨Tryz.func271, rfl, by kernel_rfl, by kernel_rfl⟩ 10 rfl rfl <| x_block <| zr <| tl_y rfl (y_eqNilIface rfl rfl) <| zq <| x_true rfl (rfl) <| x_region <| as0 rfl <| tl_nil (.block_normal (.rec_normal lR ⟨rfl, rfl, rfl⟩))
theorem caughtC1_wrong {b : Nat} {x : Value} : ConD Tryz.prog 271 #[.pointer (some ⟨b, 0, none⟩)] (.panicking wrongc) G M ((b, .cells #[x] 22 (0, 0)) :: L)
  (fun u' M' L' => u' = .panicking [{ v := wrongcv, recovered := true }] ∧ M' = M ∧ L' = (b, .cells #[.slice none 0 0] 22 (0, 0)) :: L) := by
 refine enterRec (args := [_]) (fn := Tryz.f271) ⟨Tryz.func271, rfl, by kernel_rfl, by kernel_rfl⟩ 10 rfl rfl <| x_block <| zr <| tl_y rfl (y_eqIfaceNil rfl rfl) <| zq <| x_false rfl (rfl) <| zr <| tl_y rfl (y_assertOk rfl (by intro _ h; cases h)) <| zx rfl <| zx rfl <| zq <| x_true rfl (rfl) <| zr <| tl_e rfl <| e_alloc <| fun b1 => tl_e rfl <| e_sT rfl rfl <| zq <| .s1 0 rfl <| x_region <| tl_e rfl <| e_sT rfl rfl <| tl_nil (.block_normal (.dropTo ((b, .cells #[.slice none 0 0] 22 (0, 0)) :: L) iI (.rec_normal lR ⟨rfl, rfl, rfl⟩)))
theorem caughtC_spec {wf : FuncId} {first cap : List Value} {K : Option Addr → Nat → Nat → Mem → Prop} {Kp : Prop}
  (hw : ∀ p, Con Tryz.prog wf (first ++ [] ++ cap).toArray G M (p :: L) (fun v M' L' => L' = p :: L ∧ ∃ A n c, v = .slice A n c ∧ K A n c M') (fun ch M' L' => L' = p :: L ∧ Kp ∧ ch = wrongc)) :
  Con Tryz.prog 245 #[.func (.func wf) first.toArray cap.toArray] G M L (fun v M' L' => L' = L ∧ ((∃ A n c, v = .slice A n c ∧ K A n c M') ∨ (v = .slice none 0 0 ∧ Kp))) noPanic := by
 refine enterD (args := [_]) (fn := Tryz.f245) ⟨Tryz.func245, rfl, by kernel_rfl, by kernel_rfl⟩ 6 rfl <| zr <| tl_e rfl <| e_alloc <| fun b1 => zq <| zr <| tl_y rfl (y_makeFunc rfl rfl) <| tl_e rfl <| e_defer rfl rfl rfl <| zq <| zr <| mvF rfl <| tl_e rfl (e_callv rfl rfl (hw _) (by
  rintro _ M1 _ hM1 ⟨rfl, hk, rfl⟩
  refine .retD (cap := [_]) (args := []) caughtC1_wrong ?_
  rintro _ M2 _ hM2 ⟨rfl, rfl, rfl⟩
  exact .inl ⟨rfl, _, L, rv1 rfl (rc_cell (by rfl) rfl (.own iI iI)), iI, hM1, rfl, .inr ⟨rfl, hk⟩⟩) ?_)
 rintro _ M1 _ hM1 ⟨rfl, A, n, c, rfl, hk⟩
 refine tl_e rfl <| e_sT rfl rfl <| zq <| .s1 2 rfl <| x_ret <| .retD (cap := [_]) (args := []) caughtC1_ret ?_
 rintro _ M2 _ hM2 ⟨rfl, rfl, rfl⟩
 exact .inl ⟨rfl, _, L, rv1 rfl (rc_cell (by rfl) rfl (.own iI iI)), iI, hM1, rfl, .inl ⟨A, n, c, rfl, hk⟩⟩
theorem Sum1_spec (hg : ShaG M) (hk : KecG M) (kind n : Int) {A : Option Addr} {m c : Nat} {vs : List Value} {bss : List (List UInt8)} (h : Row M 1 A m c vs) (hb : BRows M vs bss) (hn : bss.flatten.length ≤ 1099511627776) {b1 b2 b3 : Nat}
  [h1 : Has L b1 (.cells #[.int .i64 kind] 3 (0, 0))] [h2 : Has L b2 (.cells #[.int .i64 n] 3 (0, 0))] [h3 : Has L b3 (.cells #[.slice A m c] 44 (0, 0))] :
  Con Tryz.prog 267 #[.pointer (some ⟨b1, 0, none⟩), .pointer (some ⟨b2, 0, none⟩), .pointer (some ⟨b3, 0, none⟩)] G M L (fun v M' L' => L' = L ∧ ∃ A' m' c', v = .slice A' m' c' ∧ okC kind n ∧ m' = n.toNat ∧ Bytes M' A' m' c' (csum kind n bss.flatten)) (fun ch M' L' => L' = L ∧ ¬ okC kind n ∧ ch = wrongc) := by
 refine zfn Tryz.func267 rfl 8 rfl <| zr <| as0 rfl <| zq <| zr <| tLd rfl rfl <| tLd rfl rfl <| tLd rfl rfl <| tl_e rfl (e_call rfl (csum_spec hg hk kind n h hb hn) (by
  rintro _ M1 _ hM1 ⟨rfl, hno, rfl⟩
  exact .retA rfl hM1 ⟨rfl, hno, rfl⟩) ?_)
 rintro _ M1 _ hM1 ⟨rfl, hok, A1, c1, rfl, hA1⟩
 refine asS rfl <| zq <| .s1 3 rfl <| x_ret (ret1 rfl rfl hM1 ⟨rfl, _, _, _, rfl, hok, rfl, hA1⟩)
theorem Sum_spec (hg : ShaG M) (hk : KecG M) (kind n : Int) {A : Option Addr} {m c : Nat} {vs : List Value} {bss : List (List UInt8)} (h : Row M 1 A m c vs) (hb : BRows M vs bss) (hn : bss.flatten.length ≤ 1099511627776) :
  Con Tryz.prog 241 #[.int .i64 kind, .int .i64 n, .slice A m c] G M L (fun v M' L' => L' = L ∧ ∃ A' m' c', v = .slice A' m' c' ∧ Bytes M' A' m' c' (cSum kind n bss.flatten)) noPanic := by
 refine zfn Tryz.func241 rfl 9 rfl <| zr <| tl_e rfl <| e_box rfl <| fun b1 => tl_e rfl <| e_box rfl <| fun b2 => tl_e rfl <| e_box rfl <| fun b3 => as0 rfl <| zq <| .s3 3 4 5 rfl rfl rfl <| zr <| tl_y rfl (y_makeFunc rfl rfl) <| zca rfl (caughtC_spec (first := []) (cap := [.pointer (some ⟨b1, 0, none⟩), .pointer (some ⟨b2, 0, none⟩), .pointer (some ⟨b3, 0, none⟩)]) (K := fun A' m' c' M' => okC kind n ∧ m' = n.toNat ∧ Bytes M' A' m' c' (csum kind n bss.flatten)) (fun p => Sum1_spec hg hk kind n h hb hn)) ?_
 rintro v M1 _ hM1 ⟨rfl, hv⟩
 obtain ⟨A1, m1, c1, rfl, hA1⟩ : ∃ A' m' c', v = .slice A' m' c' ∧ Bytes M1 A' m' c' (cSum kind n bss.flatten) := by
  rcases hv with ⟨A', m', c', rfl, hok, rfl, hA⟩ | ⟨rfl, hno⟩
  ·
   exact ⟨_, _, _, rfl, by rw [cSum, if_pos hok]; exact hA⟩
  exact ⟨_, _, _, rfl, by rw [cSum, if_neg hno]; exact Row.nil _ _⟩
 refine asS rfl <| zq <| .s1 6 rfl <| x_ret (.dropTo L iI (ret1 rfl rfl hM1 ⟨rfl, _, _, _, rfl, hA1⟩))
end
def cPart (kind n : Int) (name : List UInt8) (q d : Nat) (text : List UInt8) : List UInt8 :=
 if name.length = 16 then cSum kind n (name ++ (putB q 4 ++ (putB d 2 ++ text))) else []
def stepT (name : List UInt8) (q i j : Nat) (x : List UInt8) : List UInt8 := name ++ (putB q 4 ++ (putB i 2 ++ (putB j 1 ++ x)))
def upC (o : OtsV) (name : List UInt8) (q i from_ : Nat) (x : List UInt8) : Nat → List UInt8
 | 0 => x
 | k + 1 => csum o.kind o.n (stepT name q i (from_ + k) (upC o name q i from_ x k))
def cUp (o : OtsV) (name : List UInt8) (q : Nat) (i from_ to : Int) (x : List UInt8) : List UInt8 :=
 if okR o name.length i x.length ∧ 0 ≤ from_ ∧ from_ ≤ to ∧ to ≤ (pw2 o.w.toNat : Nat) - 1 then upC o name q i.toNat from_.toNat x (to - from_).toNat else []
section
variable {G : World} {M : Mem} {L : Own}
theorem PutV_spec (v n : Nat) (hv : v < 18446744073709551616) (hn : n ≤ 8) :
  Con Tryz.prog 52 #[.int .u64 (v : Int), .int .i64 (n : Int)] G M L (fun r M' L' => L = L' ∧ ∃ A c, r = .slice A n c ∧ Bytes M' A n c (putB v n)) noPanic := by
 have h := PutN_spec (G := G) (M := M) (L := L) (UInt64.ofNat v) n hn
 rw [UInt64.toNat_ofNat', Nat.mod_eq_of_lt hv] at h
 exact h
theorem Part1_spec (hg : ShaG M) (hk : KecG M) (kind n : Int) {NA : Option Addr} {nl nc : Nat} {name : List UInt8} (hname : Bytes M NA nl nc name) (q : UInt32) (d : Nat) (hd : d ≤ 65535) {A : Option Addr} {m c : Nat} {vs : List Value} {bss : List (List UInt8)} (h : Row M 1 A m c vs) (hb : BRows M vs bss) (hn : bss.flatten.length ≤ 1000000000000) {b1 b2 b3 b4 b5 b6 : Nat}
  [i1 : Has L b1 (.cells #[.slice NA nl nc] 22 (0, 0))] [i2 : Has L b2 (.cells #[.int .u32 (q.toNat : Int)] 61 (0, 0))] [i3 : Has L b3 (.cells #[.int .u16 (d : Int)] 229 (0, 0))]
  [i4 : Has L b4 (.cells #[.int .i64 kind] 3 (0, 0))] [i5 : Has L b5 (.cells #[.int .i64 n] 3 (0, 0))] [i6 : Has L b6 (.cells #[.slice A m c] 44 (0, 0))] :
  Con Tryz.prog 257 #[.pointer (some ⟨b1, 0, none⟩), .pointer (some ⟨b2, 0, none⟩), .pointer (some ⟨b3, 0, none⟩), .pointer (some ⟨b4, 0, none⟩), .pointer (some ⟨b5, 0, none⟩), .pointer (some ⟨b6, 0, none⟩)] G M L
   (fun v M' L' => L' = L ∧ ∃ A' m' c', v = .slice A' m' c' ∧ nl = 16 ∧ okC kind n ∧ m' = n.toNat ∧ Bytes M' A' m' c' (csum kind n (name ++ (putB q.toNat 4 ++ (putB d 2 ++ bss.flatten))))) (fun ch M' L' => L' = L ∧ ¬ (nl = 16 ∧ okC kind n) ∧ ch = wrongc) := by
 have hnl := hname.size
 have hq := q.toNat_lt
 refine zfn Tryz.func257 rfl 28 rfl <| zr <| as0 rfl <| zq <| zr <| tLd rfl rfl <| tLen rfl <| tl_y rfl (y_eql rfl rfl) <| tl_e rfl (e_call rfl (cmust_spec _) (by
  rintro _ _ _ _ ⟨rfl, rfl, ht, rfl⟩
  simp at ht
  exact .retA rfl lR ⟨rfl, fun h => by omega, rfl⟩) ?_)
 rintro _ _ _ _ ⟨rfl, rfl, ht⟩
 simp at ht
 obtain rfl : nl = 16 := by omega
 refine zq <| .s6 0 1 2 3 4 5 rfl rfl rfl rfl rfl rfl <| x_seq <| x_draw 10 hmix rfl <| pLd 0 rfl rfl rfl <| pLd 1 rfl rfl rfl <| zp 2 rfl rfl (y_convN64 rfl (by omega)) <| pLd 4 rfl rfl rfl <| zp 5 rfl rfl (y_convN64 rfl (by omega)) ?_
 refine ze 3 rfl rfl <| e_call' rfl (PutV_spec q.toNat 4 (by omega) (by omega)) ?_
 rintro _ M1 _ hM1 ⟨rfl, A1, c1, rfl, hA1⟩
 refine kp ?_
 refine ze 6 rfl rfl <| e_call' rfl (PutV_spec d 2 (by omega) (by omega)) ?_
 rintro _ M2 _ hM2 ⟨rfl, A2, c2, rfl, hA2⟩
 refine ⟨⟨hM1.trans hM2, Keeps.mem⟩, ?_⟩
 refine ze 7 rfl rfl <| e_buildSlice rfl (by decide) <| fun b1 => ⟨⟨hM1.trans hM2, Keeps.mem⟩, ?_⟩
 refine .pub b1 iI <| fun M3 hM3 hb1 => ?_
 have hm3 := hM1.trans (hM2.trans hM3)
 have hfl : [name, putB q.toNat 4, putB d 2].flatten = name ++ (putB q.toNat 4 ++ putB d 2) := by simp
 have hfll : (name ++ (putB q.toNat 4 ++ putB d 2)).length = 22 := by rw [List.length_append, List.length_append, putB_length, putB_length, hnl]
 refine ze 8 rfl rfl <| e_call' rfl (Cat_spec (Row.whole hb1 rfl (by omega)) (.cons (hname.mono hm3) (.cons (hA1.mono (hM2.trans hM3)) (.cons (hA2.mono hM3) .nil))) (by rw [hfl, hfll]; omega)) ?_
 rintro _ M4 _ hM4 ⟨rfl, A4, c4, rfl, hA4⟩
 rw [hfl, hfll] at hA4
 rw [hfl, hfll]
 have hm4 := hm3.trans hM4
 refine ⟨⟨hm4, Keeps.mem⟩, ?_⟩
 refine paS 9 rfl rfl <| zz <| .then_normal <| .s4 3 4 5 7 rfl rfl rfl rfl <| x_seq <| x_draw 8 hmix rfl <| pLd 0 rfl rfl rfl <| pLd 1 rfl rfl rfl <| pmS 2 rfl rfl <| pLd 3 rfl rfl rfl <| ze 4 rfl rfl <| e_call' rfl (Cat_spec (h.mono hm4) (hb.mono hm4) (by omega)) ?_
 rintro _ M5 _ hM5 ⟨rfl, A5, c5, rfl, hA5⟩
 refine kp ?_
 refine ze 5 rfl rfl <| e_buildSlice rfl (by decide) <| fun b2' => ⟨⟨hM5, Keeps.mem⟩, ?_⟩
 refine .pub b2' iI <| fun M6 hM6 hb2' => ?_
 have hm6 := hm4.trans (hM5.trans hM6)
 have hfl2 : [name ++ (putB q.toNat 4 ++ putB d 2), bss.flatten].flatten = name ++ (putB q.toNat 4 ++ (putB d 2 ++ bss.flatten)) := by simp
 have hfll2 : (name ++ (putB q.toNat 4 ++ (putB d 2 ++ bss.flatten))).length = 22 + bss.flatten.length := by rw [List.length_append, List.length_append, List.length_append, putB_length, putB_length, hnl]; omega
 refine to_e 6 rfl (by kernel_rfl) rfl (e_call rfl (csum_spec (hg.mono hm6) (hk.mono hm6) kind n (Row.whole hb2' rfl (by omega)) (.cons (hA4.mono (hM5.trans hM6)) (.cons (hA5.mono hM6) .nil)) (by rw [hfl2, hfll2]; omega)) (by
  rintro _ M7 _ hM7 ⟨rfl, hno, rfl⟩
  exact .retA rfl (hm6.trans hM7) ⟨rfl, fun h => hno h.2, rfl⟩) ?_)
 rintro _ M7 _ hM7 ⟨rfl, hok, A7, c7, rfl, hA7⟩
 rw [hfl2] at hA7
 refine ⟨⟨hM5.trans (hM6.trans hM7), Keeps.mem⟩, ?_⟩
 refine paS 7 rfl rfl <| zz <| .then_normal <| .s1 6 rfl <| x_ret (ret1 rfl rfl (hm6.trans hM7) ⟨rfl, _, _, _, rfl, rfl, hok, rfl, hA7⟩)
theorem Part_spec (hg : ShaG M) (hk : KecG M) (kind n : Int) {NA : Option Addr} {nl nc : Nat} {name : List UInt8} (hname : Bytes M NA nl nc name) (q : UInt32) (d : Nat) (hd : d ≤ 65535) {A : Option Addr} {m c : Nat} {vs : List Value} {bss : List (List UInt8)} (h : Row M 1 A m c vs) (hb : BRows M vs bss) (hn : bss.flatten.length ≤ 1000000000000) :
  Con Tryz.prog 223 #[.int .i64 kind, .int .i64 n, .slice NA nl nc, .int .u32 (q.toNat : Int), .int .u16 (d : Int), .slice A m c] G M L (fun v M' L' => L' = L ∧ ∃ A' m' c', v = .slice A' m' c' ∧ Bytes M' A' m' c' (cPart kind n name q.toNat d bss.flatten)) noPanic := by
 have hnl := hname.size
 refine zfn Tryz.func223 rfl 15 rfl <| zr <| tl_e rfl <| e_box rfl <| fun b1 => tl_e rfl <| e_box rfl <| fun b2 => tl_e rfl <| e_box rfl <| fun b3 => tl_e rfl <| e_box rfl <| fun b4 => tl_e rfl <| e_box rfl <| fun b5 => tl_e rfl <| e_box rfl <| fun b6 => as0 rfl <| zq <| .s6 6 7 8 9 10 11 rfl rfl rfl rfl rfl rfl <| zr <| tl_y rfl (y_makeFunc rfl rfl) <| zca rfl (caughtC_spec (first := []) (cap := [.pointer (some ⟨b3, 0, none⟩), .pointer (some ⟨b4, 0, none⟩), .pointer (some ⟨b5, 0, none⟩), .pointer (some ⟨b1, 0, none⟩), .pointer (some ⟨b2, 0, none⟩), .pointer (some ⟨b6, 0, none⟩)]) (K := fun A' m' c' M' => nl = 16 ∧ okC kind n ∧ m' = n.toNat ∧ Bytes M' A' m' c' (csum kind n (name ++ (putB q.toNat 4 ++ (putB d 2 ++ bss.flatten))))) (fun p => Part1_spec hg hk kind n hname q d hd h hb hn)) ?_
 rintro v M1 _ hM1 ⟨rfl, hv⟩
 obtain ⟨A1, m1, c1, rfl, hA1⟩ : ∃ A' m' c', v = .slice A' m' c' ∧ Bytes M1 A' m' c' (cPart kind n name q.toNat d bss.flatten) := by
  rcases hv with ⟨A', m', c', rfl, hn16, hok, rfl, hA⟩ | ⟨rfl, hno⟩
  ·
   exact ⟨_, _, _, rfl, by rw [cPart, if_pos (by omega), cSum, if_pos hok]; exact hA⟩
  refine ⟨_, _, _, rfl, ?_⟩
  rw [cPart]
  split
  ·
   rw [cSum, if_neg (fun h => hno ⟨by omega, h⟩)]; exact Row.nil _ _
  exact Row.nil _ _
 refine asS rfl <| zq <| .s1 12 rfl <| x_ret (.dropTo L iI (ret1 rfl rfl hM1 ⟨rfl, _, _, _, rfl, hA1⟩))
end
section
variable {G : World} {M : Mem} {L : Own}
theorem right_spec (hs : SetG M) (o : OtsV) {NA XA : Option Addr} {nl nc xl xc : Nat} (i : Int) :
  Con Tryz.prog 247 #[.agg (List.toArray o.cells), .slice NA nl nc, .int .i64 i, .slice XA xl xc] G M L (fun v M' L' => L' = L ∧ okR o nl i xl) (fun ch M' L' => L' = L ∧ ¬ okR o nl i xl ∧ ch = wrongc) := by
 refine zfn Tryz.func247 rfl 46 rfl <| zr <| tl_e rfl <| e_box rfl <| fun b1 => zq <| zr <| tFa rfl <| tLd rfl rfl <| zca rfl (Ots_spec hs o.code) ?_
 rintro _ M1 _ hM1 ⟨rfl, rfl⟩
 refine mvU rfl <| zx rfl <| zx rfl <| tl_e rfl <| e_alloc <| fun b2 => tl_e rfl <| e_sT rfl rfl <| asI rfl <| zq <| .s6 1 2 3 4 8 9 rfl rfl rfl rfl rfl rfl <| x_region <| mvI rfl <| tl_y rfl (y_eql rfl rfl) <| mvB rfl <| tl_cases (s := 18) rfl (fun hk1 => ?_) (fun hk1 => ?_)
 ·
  refine tLg rfl rfl <| tLg rfl rfl <| tl_y rfl (y_eqlS rfl rfl eqs103) <| tPt rfl rfl <| mvB rfl <| tl_cases (s := 23) rfl (fun hk2 => ?_) (fun hk2 => ?_)
  ·
   refine mvS rfl <| tLen rfl <| tl_y rfl (y_eql rfl rfl) <| tPt rfl rfl <| mvB rfl <| tl_cases (s := 28) rfl (fun hk3 => ?_) (fun hk3 => ?_)
   ·
    refine mvI rfl <| tl_y rfl (y_geq rfl rfl) <| tPt rfl rfl <| mvB rfl <| tl_cases (s := 32) rfl (fun hk4 => ?_) (fun hk4 => ?_)
    ·
     refine mvI rfl <| tFa rfl <| tLd rfl rfl <| tl_y rfl (y_lss rfl rfl) <| tPt rfl rfl <| mvB rfl <| tl_cases (s := 38) rfl (fun hk5 => ?_) (fun hk5 => ?_)
     ·
      refine mvS rfl <| tLen rfl <| tFa rfl <| tLd rfl rfl <| tl_y rfl (y_eql rfl rfl) <| tPt rfl rfl <| tl_e rfl (e_call rfl (cmust_spec _) (by
       rintro _ _ _ _ ⟨rfl, rfl, ht, rfl⟩
       refine TP.dropTo L iI (.retA rfl hM1 ⟨rfl, ?_, rfl⟩)
       rintro ⟨a1, a2, a3, a4, a5, a6⟩
       first | (cases ht; done) | exact hk1 a1 | exact hk2 (eq_ots a2) | omega | (simp at ht; omega)) ?_)
      rintro _ _ _ _ ⟨rfl, rfl, ht⟩
      refine tl_nil (.dropTo L iI (end0 rfl hM1 ⟨rfl, by first | (cases ht; done) | (simp at ht; exact ⟨hk1, ots_eq hk2, by omega, by omega, by omega, by omega⟩)⟩))
     refine sk5 rfl rfl rfl rfl rfl <| tPf rfl rfl <| tl_e rfl (e_call rfl (cmust_spec _) (by
      rintro _ _ _ _ ⟨rfl, rfl, ht, rfl⟩
      refine TP.dropTo L iI (.retA rfl hM1 ⟨rfl, ?_, rfl⟩)
      rintro ⟨a1, a2, a3, a4, a5, a6⟩
      first | (cases ht; done) | exact hk1 a1 | exact hk2 (eq_ots a2) | omega | (simp at ht; omega)) ?_)
     rintro _ _ _ _ ⟨rfl, rfl, ht⟩
     refine tl_nil (.dropTo L iI (end0 rfl hM1 ⟨rfl, by first | (cases ht; done) | (simp at ht; exact ⟨hk1, ots_eq hk2, by omega, by omega, by omega, by omega⟩)⟩))
    refine sk4 rfl rfl rfl rfl <| tPf rfl rfl <| mvB rfl <| sk5 rfl rfl rfl rfl rfl <| tPf rfl rfl <| tl_e rfl (e_call rfl (cmust_spec _) (by
     rintro _ _ _ _ ⟨rfl, rfl, ht, rfl⟩
     refine TP.dropTo L iI (.retA rfl hM1 ⟨rfl, ?_, rfl⟩)
     rintro ⟨a1, a2, a3, a4, a5, a6⟩
     first | (cases ht; done) | exact hk1 a1 | exact hk2 (eq_ots a2) | omega | (simp at ht; omega)) ?_)
    rintro _ _ _ _ ⟨rfl, rfl, ht⟩
    refine tl_nil (.dropTo L iI (end0 rfl hM1 ⟨rfl, by first | (cases ht; done) | (simp at ht; exact ⟨hk1, ots_eq hk2, by omega, by omega, by omega, by omega⟩)⟩))
   refine sk2 rfl rfl <| tPf rfl rfl <| mvB rfl <| sk4 rfl rfl rfl rfl <| tPf rfl rfl <| mvB rfl <| sk5 rfl rfl rfl rfl rfl <| tPf rfl rfl <| tl_e rfl (e_call rfl (cmust_spec _) (by
    rintro _ _ _ _ ⟨rfl, rfl, ht, rfl⟩
    refine TP.dropTo L iI (.retA rfl hM1 ⟨rfl, ?_, rfl⟩)
    rintro ⟨a1, a2, a3, a4, a5, a6⟩
    first | (cases ht; done) | exact hk1 a1 | exact hk2 (eq_ots a2) | omega | (simp at ht; omega)) ?_)
   rintro _ _ _ _ ⟨rfl, rfl, ht⟩
   refine tl_nil (.dropTo L iI (end0 rfl hM1 ⟨rfl, by first | (cases ht; done) | (simp at ht; exact ⟨hk1, ots_eq hk2, by omega, by omega, by omega, by omega⟩)⟩))
  refine sk3 rfl rfl rfl <| tPf rfl rfl <| mvB rfl <| sk2 rfl rfl <| tPf rfl rfl <| mvB rfl <| sk4 rfl rfl rfl rfl <| tPf rfl rfl <| mvB rfl <| sk5 rfl rfl rfl rfl rfl <| tPf rfl rfl <| tl_e rfl (e_call rfl (cmust_spec _) (by
   rintro _ _ _ _ ⟨rfl, rfl, ht, rfl⟩
   refine TP.dropTo L iI (.retA rfl hM1 ⟨rfl, ?_, rfl⟩)
   rintro ⟨a1, a2, a3, a4, a5, a6⟩
   first | (cases ht; done) | exact hk1 a1 | exact hk2 (eq_ots a2) | omega | (simp at ht; omega)) ?_)
  rintro _ _ _ _ ⟨rfl, rfl, ht⟩
  refine tl_nil (.dropTo L iI (end0 rfl hM1 ⟨rfl, by first | (cases ht; done) | (simp at ht; exact ⟨hk1, ots_eq hk2, by omega, by omega, by omega, by omega⟩)⟩))
 refine sk3 rfl rfl rfl <| tPf rfl rfl <| mvB rfl <| sk3 rfl rfl rfl <| tPf rfl rfl <| mvB rfl <| sk2 rfl rfl <| tPf rfl rfl <| mvB rfl <| sk4 rfl rfl rfl rfl <| tPf rfl rfl <| mvB rfl <| sk5 rfl rfl rfl rfl rfl <| tPf rfl rfl <| tl_e rfl (e_call rfl (cmust_spec _) (by
  rintro _ _ _ _ ⟨rfl, rfl, ht, rfl⟩
  refine TP.dropTo L iI (.retA rfl hM1 ⟨rfl, ?_, rfl⟩)
  rintro ⟨a1, a2, a3, a4, a5, a6⟩
  first | (cases ht; done) | exact hk1 a1 | exact hk2 (eq_ots a2) | omega | (simp at ht; omega)) ?_)
 rintro _ _ _ _ ⟨rfl, rfl, ht⟩
 refine tl_nil (.dropTo L iI (end0 rfl hM1 ⟨rfl, by first | (cases ht; done) | (simp at ht; exact ⟨hk1, ots_eq hk2, by omega, by omega, by omega, by omega⟩)⟩))
theorem step_spec (hg : ShaG M) (hk : KecG M) (o : OtsV) (hok : okC o.kind o.n) {NA XA : Option Addr} {nl nc xl xc : Nat} {name x : List UInt8} (hname : Bytes M NA nl nc name) (hx : Bytes M XA xl xc x) (hnl : nl ≤ 1000000) (hxl : xl ≤ 1000000) (q : UInt32) (i j : Nat) (hi : i ≤ 65535) (hj : j ≤ 255) :
  Con Tryz.prog 249 #[.agg (List.toArray o.cells), .slice NA nl nc, .int .u32 (q.toNat : Int), .int .i64 (i : Int), .int .i64 (j : Int), .slice XA xl xc] G M L (fun v M' L' => L' = L ∧ ∃ A c, v = .slice A o.n.toNat c ∧ Bytes M' A o.n.toNat c (csum o.kind o.n (stepT name q.toNat i j x))) noPanic := by
 have hnls := hname.size
 have hxls := hx.size
 have hq := q.toNat_lt
 refine zfn Tryz.func249 rfl 30 rfl <| zr <| tl_e rfl <| e_box rfl <| fun b1 => as0 rfl <| zq <| x_seq <| x_draw 18 hmix rfl <| pFa 0 rfl rfl <| pLd 1 rfl rfl rfl <| pFa 2 rfl rfl ?_
 refine pLd 3 rfl rfl rfl <| pmS 4 rfl rfl <| pmI 5 rfl rfl <| zp 6 rfl rfl (y_convN64 rfl (by omega)) <| pmI 8 rfl rfl <| zp 9 rfl rfl (y_convN64 rfl (by omega)) <| pmI 11 rfl rfl <| zp 12 rfl rfl (y_convN64 rfl (by omega)) <| pmS 14 rfl rfl ?_
 refine ze 7 rfl rfl <| e_call' rfl (PutV_spec q.toNat 4 (by omega) (by omega)) ?_
 rintro _ M1 _ hM1 ⟨rfl, A1, c1, rfl, hA1⟩
 refine kp ?_
 refine ze 10 rfl rfl <| e_call' rfl (PutV_spec i 2 (by omega) (by omega)) ?_
 rintro _ M2 _ hM2 ⟨rfl, A2, c2, rfl, hA2⟩
 refine ⟨⟨hM1.trans hM2, Keeps.mem⟩, ?_⟩
 refine ze 13 rfl rfl <| e_call' rfl (PutV_spec j 1 (by omega) (by omega)) ?_
 rintro _ M3 _ hM3 ⟨rfl, A3, c3, rfl, hA3⟩
 have hm3 := hM1.trans (hM2.trans hM3)
 refine ⟨⟨hm3, Keeps.mem⟩, ?_⟩
 refine ze 15 rfl rfl <| e_buildSlice rfl (by decide) <| fun b2 => ⟨⟨hm3, Keeps.mem⟩, ?_⟩
 refine .pub b2 iI <| fun M4 hM4 hb2 => ?_
 have hm4 := hm3.trans hM4
 have hfl : [name, putB q.toNat 4, putB i 2, putB j 1, x].flatten = stepT name q.toNat i j x := by simp [stepT]
 have hfll : (stepT name q.toNat i j x).length = nl + 7 + xl := by
  rw [stepT, List.length_append, List.length_append, List.length_append, List.length_append, putB_length, putB_length, putB_length]; omega
 refine to_e 16 rfl (by kernel_rfl) rfl (e_call rfl (csum_spec (hg.mono hm4) (hk.mono hm4) o.kind o.n (Row.whole hb2 rfl (by omega)) (.cons (hname.mono hm4) (.cons (hA1.mono (hM2.trans (hM3.trans hM4))) (.cons (hA2.mono (hM3.trans hM4)) (.cons (hA3.mono hM4) (.cons (hx.mono hm4) .nil))))) (by rw [hfl, hfll]; omega)) (by
  rintro _ M7 _ hM7 ⟨_, hno, _⟩
  exact absurd hok hno) ?_)
 rintro _ M7 _ hM7 ⟨rfl, _, A7, c7, rfl, hA7⟩
 rw [hfl] at hA7
 refine ⟨⟨hm4.trans hM7, Keeps.mem⟩, ?_⟩
 refine paS 17 rfl rfl <| zz <| .then_normal <| .s1 12 rfl <| x_ret (.dropTo L iI (ret1 rfl rfl (hm4.trans hM7) ⟨rfl, _, _, rfl, hA7⟩))
end
theorem upC_length {o : OtsV} (hok : okC o.kind o.n) (hsha : ∀ t, (sha t).length = 32) (name : List UInt8) (q i f : Nat) {x : List UInt8} (hx : (x.length : Int) = o.n) (k : Nat) : ((upC o name q i f x k).length : Int) = o.n := by
 cases k with
 | zero => exact hx
 | succ k =>
  rw [upC, csum_length hok _ (hsha _)]
  rcases hok.2 with h | h <;> rw [h] <;> rfl
section
variable {G : World} {M : Mem} {L : Own}
theorem Up1_spec (hg : ShaG M) (hk : KecG M) (hs : SetG M) (o : OtsV) {NA XA : Option Addr} {nl nc xl xc : Nat} {name x : List UInt8} (hname : Bytes M NA nl nc name) (hx : Bytes M XA xl xc x) (q : UInt32) (i f t : Int) {b1 b2 b3 b4 b5 b6 b7 : Nat}
  [i1 : Has L b1 (.cells (List.toArray o.cells) 103 (0, 0))] [i2 : Has L b2 (.cells #[.slice NA nl nc] 22 (0, 0))] [i3 : Has L b3 (.cells #[.int .i64 i] 3 (0, 0))]
  [i4 : Has L b4 (.cells #[.slice XA xl xc] 22 (0, 0))] [i5 : Has L b5 (.cells #[.int .i64 f] 3 (0, 0))] [i6 : Has L b6 (.cells #[.int .i64 t] 3 (0, 0))] [i7 : Has L b7 (.cells #[.int .u32 (q.toNat : Int)] 61 (0, 0))] :
  Con Tryz.prog 246 #[.pointer (some ⟨b1, 0, none⟩), .pointer (some ⟨b2, 0, none⟩), .pointer (some ⟨b3, 0, none⟩), .pointer (some ⟨b4, 0, none⟩), .pointer (some ⟨b5, 0, none⟩), .pointer (some ⟨b6, 0, none⟩), .pointer (some ⟨b7, 0, none⟩)] G M L
   (fun v M' L' => L' = L ∧ ∃ A' m' c', v = .slice A' m' c' ∧ (okR o nl i xl ∧ 0 ≤ f ∧ f ≤ t ∧ t ≤ (pw2 o.w.toNat : Nat) - 1) ∧ m' = o.n.toNat ∧ Bytes M' A' m' c' (upC o name q.toNat i.toNat f.toNat x (t - f).toNat)) (fun ch M' L' => L' = L ∧ ¬ (okR o nl i xl ∧ 0 ≤ f ∧ f ≤ t ∧ t ≤ (pw2 o.w.toNat : Nat) - 1) ∧ ch = wrongc) := by
 have hnls := hname.size
 have hxls := hx.size
 refine zfn Tryz.func246 rfl 47 rfl <| zr <| as0 rfl <| zq <| zr <| tLg rfl rfl <| tLd rfl rfl <| tLd rfl rfl <| tLd rfl rfl <| tl_e rfl (e_call rfl (right_spec hs o i) (by
  rintro _ M1 _ hM1 ⟨rfl, hno, rfl⟩
  exact .retA rfl hM1 ⟨rfl, fun h => hno h.1, rfl⟩) ?_)
 rintro _ M1 L hM1 ⟨rfl, hok⟩
 obtain ⟨hoc, hop, w, hw, hww⟩ := okR_facts hok
 have hob : nl = 16 ∧ 0 ≤ i ∧ i < o.p ∧ (xl : Int) = o.n := hok.2.2
 have hon : o.n = 24 ∨ o.n = 32 := hoc.2
 have hpw := pw2_w hw
 have hwt : o.w.toNat = w := by omega
 rw [hwt]
 have hwi : 0 ≤ o.w := by omega
 have hshl : IntKind.i64.wrap (1 * 2 ^ (min o.w.toNat IntKind.i64.bits)) = ((pw2 w : Nat) : Int) := by rw [hww]; exact shl1_w hw
 obtain ⟨i', rfl⟩ : ∃ i' : Nat, i = i' := ⟨i.toNat, by omega⟩
 refine zq <| .s7 0 1 2 3 4 5 6 rfl rfl rfl rfl rfl rfl rfl <| x_seq <| x_meet (I := fun F D M2 L2 => (0 ≤ f ∧ f ≤ t ∧ t ≤ (pw2 w : Nat) - 1) ∧ D = [] ∧ M1 = M2 ∧ L = L2 ∧ F = [(0, .pointer (some ⟨b1, 0, none⟩)), (1, .pointer (some ⟨b2, 0, none⟩)), (2, .pointer (some ⟨b3, 0, none⟩)), (3, .pointer (some ⟨b4, 0, none⟩)), (4, .pointer (some ⟨b5, 0, none⟩)), (5, .pointer (some ⟨b6, 0, none⟩)), (6, .pointer (some ⟨b7, 0, none⟩))]) ?_ (fun Jd2 => ?_)
 ·
  rintro _ _ _ _ ⟨hj, rfl, rfl, rfl, rfl⟩
  obtain ⟨f', rfl⟩ : ∃ f' : Nat, f = f' := ⟨f.toNat, by omega⟩
  obtain ⟨t', rfl⟩ : ∃ t' : Nat, t = t' := ⟨t.toNat, by omega⟩
  refine zr <| tLd rfl rfl <| zca rfl (bytesClone_spec (hx.mono hM1) (by omega)) ?_
  rintro _ M3 L hM3 ⟨rfl, A3, c3, rfl, hA3⟩
  have hm3 := hM1.trans hM3
  refine asS rfl <| zq <| zr2 <| tLd rfl rfl <| asI rfl <| zq <| .s7 0 1 2 5 6 8 9 rfl rfl rfl rfl rfl rfl rfl <| x_block ?_
  refine x_loop (I := fun m' F D M4 L4 => ∃ (k : Nat) (A4 : Option Addr) (c4 : Nat), m' = t' - f' - k ∧ k ≤ t' - f' ∧ Le M M4 ∧ Bytes M4 A4 o.n.toNat c4 (upC o name q.toNat i' f' x k) ∧ D = [] ∧ L = L4 ∧ F = [(0, .pointer (some ⟨b1, 0, none⟩)), (1, .pointer (some ⟨b2, 0, none⟩)), (2, .pointer (some ⟨b3, 0, none⟩)), (5, .pointer (some ⟨b6, 0, none⟩)), (6, .pointer (some ⟨b7, 0, none⟩)), (8, .slice A4 o.n.toNat c4), (9, .int .i64 ((f' + k : Nat) : Int))]) (t' - f') (F0 := [(0, _), (1, _), (2, _), (5, _), (6, _), (8, _), (9, _)]) ?_ (cs7 rfl rfl rfl rfl rfl rfl rfl) ?_
  ·
   exact ⟨0, A3, c3, rfl, by omega, hm3, by rw [show o.n.toNat = xl by omega]; exact hA3, rfl, rfl, by rw [show o.n.toNat = xl by omega]; rfl⟩
  rintro m _ _ M4 L4 ⟨k, A4, c4, rfl, hkk, hM4, hA4, rfl, rfl, rfl⟩
  refine zr2 <| mvI rfl <| tLd rfl rfl <| tl_y rfl (y_lss rfl rfl) <| zq <| x_cond rfl (fun hc1 => ?_) (fun hc1 => ?_)
  ·
   refine x_skip <| .then_normal <| x_seq <| x_block <| x_region <| tLg rfl rfl <| tLd rfl rfl <| tLd rfl rfl <| tLd rfl rfl <| mvI rfl <| mvS rfl <| zca rfl (step_spec (hg.mono hM4) (hk.mono hM4) o hoc (hname.mono hM4) hA4 (by omega) (by omega) q i' (f' + k) (by omega) (by omega)) ?_
   rintro _ M5 _ hM5 ⟨rfl, A5, c5, rfl, hA5⟩
   refine asS rfl <| tl_nil <| .block_normal <| .then_normal <| .s7 0 1 2 5 6 8 9 rfl rfl rfl rfl rfl rfl rfl <| x_region <| mvI rfl <| tl_y rfl (y_addI rfl rfl (by omega)) ?_
   rw [show ((f' + k : Nat) : Int) + 1 = ((f' + (k + 1) : Nat) : Int) by omega]
   refine asI rfl <| tl_nil <| .loop_next (m' := t' - f' - (k + 1)) (by omega) (F' := [(0, _), (1, _), (2, _), (5, _), (6, _), (8, _), (9, _)]) (cs7 rfl rfl rfl rfl rfl rfl rfl) ?_
   exact ⟨k + 1, A5, c5, rfl, by omega, hM4.trans hM5, hA5, rfl, rfl, rfl⟩
  refine x_exit <| .then_exit <| .loop_exit <| .block_exit <| .then_normal <| .s1 8 rfl <| zr <| mvS rfl <| asS rfl <| zq <| x_ret (ret1 rfl rfl hM4 ⟨rfl, _, _, _, rfl, ⟨hok, hj⟩, rfl, by
   obtain rfl : k = t' - f' := by omega
   rw [show ((t' : Int) - (f' : Int)).toNat = t' - f' by omega]
   exact hA4⟩)
 refine x_draw 16 hmix rfl <| pLd 0 rfl rfl rfl <| zp 1 rfl rfl (y_geq rfl rfl) <| pmB 2 rfl rfl <| to_cases (s := 17) rfl (fun hk1 => ?_) (fun hk1 => ?_)
 ·
  refine pLd 3 rfl rfl rfl <| pLd 4 rfl rfl rfl <| zp 5 rfl rfl (y_leq rfl rfl) <| zp 6 rfl rfl (y_pickT rfl rfl) <| pmB 7 rfl rfl <| to_cases (s := 22) rfl (fun hk2 => ?_) (fun hk2 => ?_)
  ·
   refine pLd 8 rfl rfl rfl <| pFa 9 rfl rfl <| pLd 10 rfl rfl rfl <| zp 11 rfl rfl (y_shl rfl rfl (by omega)) ?_
   rw [hshl]
   refine zp 12 rfl rfl (y_subI rfl rfl (by omega)) <| zp 13 rfl rfl (y_leq rfl rfl) <| zp 14 rfl rfl (y_pickT rfl rfl) ?_
   refine to_e 15 rfl (by kernel_rfl) rfl (e_call rfl (cmust_spec _) (by
    rintro _ _ _ _ ⟨rfl, rfl, ht, rfl⟩
    exact .retA rfl hM1 ⟨rfl, fun h => by first | (cases ht; done) | (simp at ht; omega) | omega, rfl⟩) ?_)
   rintro _ _ _ _ ⟨rfl, rfl, ht⟩
   refine kp ?_
   refine zz <| .then_normal <| .sub (F' := [(0, _), (1, _), (2, _), (3, _), (4, _), (5, _), (6, _)]) (cs7 rfl rfl rfl rfl rfl rfl rfl) <| Jd2 _ _ _ _ ?_
   exact ⟨by first | (cases ht; done) | (simp at ht; omega) | omega, rfl, rfl, rfl, rfl⟩
  refine zs 8 rfl rfl <| zs 9 rfl rfl <| zs 10 rfl rfl <| zs 11 rfl rfl <| zs 12 rfl rfl <| zs 13 rfl rfl <| zp 14 rfl rfl (y_pickF rfl rfl) <| to_e 15 rfl (by kernel_rfl) rfl (e_call rfl (cmust_spec _) (by
   rintro _ _ _ _ ⟨rfl, rfl, ht, rfl⟩
   exact .retA rfl hM1 ⟨rfl, fun h => by first | (cases ht; done) | (simp at ht; omega) | omega, rfl⟩) ?_)
  rintro _ _ _ _ ⟨rfl, rfl, ht⟩
  refine kp ?_
  refine zz <| .then_normal <| .sub (F' := [(0, _), (1, _), (2, _), (3, _), (4, _), (5, _), (6, _)]) (cs7 rfl rfl rfl rfl rfl rfl rfl) <| Jd2 _ _ _ _ ?_
  exact ⟨by first | (cases ht; done) | (simp at ht; omega) | omega, rfl, rfl, rfl, rfl⟩
 refine zs 3 rfl rfl <| zs 4 rfl rfl <| zs 5 rfl rfl <| zp 6 rfl rfl (y_pickF rfl rfl) <| pmB 7 rfl rfl <| zs 8 rfl rfl <| zs 9 rfl rfl <| zs 10 rfl rfl <| zs 11 rfl rfl <| zs 12 rfl rfl ?_
 refine zs 13 rfl rfl <| zp 14 rfl rfl (y_pickF rfl rfl) <| to_e 15 rfl (by kernel_rfl) rfl (e_call rfl (cmust_spec _) (by
  rintro _ _ _ _ ⟨rfl, rfl, ht, rfl⟩
  exact .retA rfl hM1 ⟨rfl, fun h => by first | (cases ht; done) | (simp at ht; omega) | omega, rfl⟩) ?_)
 rintro _ _ _ _ ⟨rfl, rfl, ht⟩
 refine kp ?_
 refine zz <| .then_normal <| .sub (F' := [(0, _), (1, _), (2, _), (3, _), (4, _), (5, _), (6, _)]) (cs7 rfl rfl rfl rfl rfl rfl rfl) <| Jd2 _ _ _ _ ?_
 exact ⟨by first | (cases ht; done) | (simp at ht; omega) | omega, rfl, rfl, rfl, rfl⟩
theorem Up_spec' (hg : ShaG M) (hk : KecG M) (hs : SetG M) (o : OtsV) {NA XA : Option Addr} {nl nc xl xc : Nat} {name x : List UInt8} (hname : Bytes M NA nl nc name) (hx : Bytes M XA xl xc x) (q : UInt32) (i f t : Int) :
  Con Tryz.prog 201 #[.agg (List.toArray o.cells), .slice NA nl nc, .int .u32 (q.toNat : Int), .int .i64 i, .int .i64 f, .int .i64 t, .slice XA xl xc] G M L (fun v M' L' => L' = L ∧ ∃ A' m' c', v = .slice A' m' c' ∧ Bytes M' A' m' c' (cUp o name q.toNat i f t x)) noPanic := by
 have hnls := hname.size
 have hxls := hx.size
 refine zfn Tryz.func201 rfl 17 rfl <| zr <| tl_e rfl <| e_box rfl <| fun b1 => tl_e rfl <| e_box rfl <| fun b2 => tl_e rfl <| e_box rfl <| fun b3 => tl_e rfl <| e_box rfl <| fun b4 => tl_e rfl <| e_box rfl <| fun b5 => tl_e rfl <| e_box rfl <| fun b6 => tl_e rfl <| e_box rfl <| fun b7 => as0 rfl <| zq <| .s7 7 8 9 10 11 12 13 rfl rfl rfl rfl rfl rfl rfl <| zr <| tl_y rfl (y_makeFunc rfl rfl) <| zca rfl (caughtC_spec (first := []) (cap := [.pointer (some ⟨b1, 0, none⟩), .pointer (some ⟨b2, 0, none⟩), .pointer (some ⟨b4, 0, none⟩), .pointer (some ⟨b7, 0, none⟩), .pointer (some ⟨b5, 0, none⟩), .pointer (some ⟨b6, 0, none⟩), .pointer (some ⟨b3, 0, none⟩)]) (K := fun A' m' c' M' => (okR o nl i xl ∧ 0 ≤ f ∧ f ≤ t ∧ t ≤ (pw2 o.w.toNat : Nat) - 1) ∧ m' = o.n.toNat ∧ Bytes M' A' m' c' (upC o name q.toNat i.toNat f.toNat x (t - f).toNat)) (fun p => Up1_spec hg hk hs o hname hx q i f t)) ?_
 rintro v M1 _ hM1 ⟨rfl, hv⟩
 obtain ⟨A1, m1, c1, rfl, hA1⟩ : ∃ A' m' c', v = .slice A' m' c' ∧ Bytes M1 A' m' c' (cUp o name q.toNat i f t x) := by
  rcases hv with ⟨A', m', c', rfl, hok, rfl, hA⟩ | ⟨rfl, hno⟩
  ·
   exact ⟨_, _, _, rfl, by rw [cUp, hnls, hxls, if_pos hok]; exact hA⟩
  exact ⟨_, _, _, rfl, by rw [cUp, hnls, hxls, if_neg hno]; exact Row.nil _ _⟩
 refine asS rfl <| zq <| .s1 14 rfl <| x_ret (.dropTo L iI (ret1 rfl rfl hM1 ⟨rfl, _, _, _, rfl, hA1⟩))
end
section
variable {G : World} {M : Mem} {L : Own}
def eqTo (a b : List UInt8) (k : Nat) : Prop := ∀ j, j < k → a.getD j 0 = b.getD j 0
theorem same_spec {a b : List UInt8} {A B : Option Addr} {n c m d : Nat} (ha : Bytes M A n c a) (hb : Bytes M B m d b) :
  Con Tryz.prog 16 #[.slice A n c, .slice B m d] G M L (fun v M' L' => M = M' ∧ L = L' ∧ v = .bool (decide (a = b))) noPanic := by
 have hla := ha.size
 have hlb := hb.size
 have hmx := ha.max
 have hmle := ha.le
 refine zfn Tryz.func16 rfl 26 rfl <| zr <| as0 rfl <| zq <| zr2 <| mvS rfl <| tLen rfl <| mvS rfl <| tLen rfl <| tl_y rfl (y_neq rfl rfl) <| zq <| .s4 0 1 4 10 rfl rfl rfl rfl <| x_cond rfl (fun hc1 => ?_) (fun hc1 => ?_)
 ·
  refine zr <| as0 rfl <| zq <| x_ret (.then_ret (ret1 rfl rfl lR ⟨rfl, rfl, by rw [decide_eq_false]; rintro rfl; omega⟩))
 obtain rfl : n = m := by omega
 refine x_skip <| .then_normal <| zr2 <| as0 rfl <| zq <| x_block ?_
 refine x_loop (I := fun m' F D M1 L1 => ∃ k : Nat, m' = n - k ∧ k ≤ n ∧ eqTo a b k ∧ D = [] ∧ M = M1 ∧ L = L1 ∧ F = [(0, .slice A n c), (1, .slice B n d), (4, .bool false), (5, .int .i64 k)]) (n) (F0 := [(0, _), (1, _), (4, _), (5, _)]) ?_ (cs4 rfl rfl rfl rfl) ?_
 ·
  exact ⟨0, rfl, by omega, (fun j h => by omega), rfl, rfl, rfl, rfl⟩
 rintro m _ _ M1 L1 ⟨k, rfl, hk, heq, rfl, rfl, rfl, rfl⟩
 refine zr2 <| mvI rfl <| mvS rfl <| tLen rfl <| tl_y rfl (y_lss rfl rfl) <| zq <| x_cond rfl (fun hc2 => ?_) (fun hc2 => ?_)
 ·
  have hkn : k < n := by omega
  obtain ⟨p, o, rfl, hca⟩ := ha.byte (by omega)
  obtain ⟨p', o', rfl, hcb⟩ := hb.byte (by omega)
  refine x_skip <| .then_normal <| .s4 0 1 4 5 rfl rfl rfl rfl <| x_seq <| x_block <| x_seq <| x_draw 9 hmix rfl <| pmS 0 rfl rfl <| pmI 1 rfl rfl <| zp 2 rfl rfl (y_indexAddr rfl rfl (by omega)) <| zy 3 rfl rfl (y_load rfl rfl (.at_ (hca _ k hkn) (by omega))) ?_
  refine pmS 4 rfl rfl <| pmI 5 rfl rfl <| zp 6 rfl rfl (y_indexAddr rfl rfl (by omega)) <| zy 7 rfl rfl (y_load rfl rfl (.at_ (hcb _ k hkn) (by omega))) <| zp 8 rfl rfl (y_neq rfl rfl) <| zz <| .then_normal <| .s5 0 1 4 5 25 rfl rfl rfl rfl rfl <| x_cond rfl (fun hc3 => ?_) (fun hc3 => ?_)
  ·
   refine zr <| as0 rfl <| zq <| x_ret (.block_ret (.then_ret (.loop_ret (.block_ret (.then_ret (ret1 rfl rfl lR ⟨rfl, rfl, by rw [decide_eq_false]; rintro rfl; exact hc3 rfl⟩))))))
  refine x_skip <| .block_normal <| .then_normal <| x_region <| mvI rfl <| tl_y rfl (y_addI rfl rfl (by omega)) <| asI rfl <| tl_nil <| .loop_next (m' := n - (k + 1)) (by omega) (F' := [(0, _), (1, _), (4, _), (5, _)]) (cs4 rfl rfl rfl rfl) ?_
  exact ⟨k + 1, rfl, by omega, (fun j hj => by
   rcases Nat.lt_or_ge j k with hlt | hge
   ·
    exact heq j hlt
   obtain rfl : j = k := by omega
   exact UInt8.toNat_inj.1 (by omega)), rfl, rfl, rfl, rfl⟩
 refine x_exit <| .then_exit <| .loop_exit <| .block_exit <| .then_normal <| .s0 <| zr <| as0 rfl <| zq <| x_ret (ret1 rfl rfl lR ⟨rfl, rfl, by
  rw [decide_eq_true]
  apply List.ext_getElem (by omega)
  intro i h1 h2
  have := heq i (by omega)
  simpa [List.getD_eq_getElem?_getD, h1, h2] using this⟩)
end
section
variable {G : World} {M : Mem} {L : Own}
theorem RGet_spec {A : Option Addr} {n c : Nat} {bs : List UInt8} (h : Bytes M A n c bs) (hn : n ≤ 8) :
  Con Tryz.prog 64 #[.slice A n c] G M L (fun r M' L' => M = M' ∧ L = L' ∧ ∃ x : UInt64, x.toNat = getB bs ∧ r = .tuple #[.int .u64 (x.toNat : Int), .bool true]) noPanic := by
 have hs := h.size
 refine zfn Tryz.func64 rfl 24 rfl <| zr <| as0 rfl <| as0 rfl <| zq <| zr2 <| mvS rfl <| tLen rfl <| tl_y rfl (y_gtr rfl rfl) <| zq <| .s2 0 8 rfl rfl <| x_false rfl (by rw [decide_eq_false]; omega) <| x_skip <| .then_normal <| zr <| as0 rfl <| zq <| zr2 <| as0 rfl <| zq <| x_block ?_
 refine x_loop (I := fun m' F D M1 L1 => ∃ (k : Nat) (x : UInt64), m' = n - k ∧ k ≤ n ∧ x.toNat = getB (bs.take k) ∧ D = [] ∧ M = M1 ∧ L = L1 ∧ F = [(0, .slice A n c), (4, .int .u64 (x.toNat : Int)), (5, .int .i64 k)]) (n) (F0 := [(0, _), (4, _), (5, _)]) ?_ (cs3 rfl rfl rfl) ?_
 ·
  exact ⟨0, 0, rfl, by omega, rfl, rfl, rfl, rfl, rfl⟩
 rintro m _ _ M1 L1 ⟨k, x, rfl, hk, hx, rfl, rfl, rfl, rfl⟩
 refine zr2 <| mvI rfl <| mvS rfl <| tLen rfl <| tl_y rfl (y_lss rfl rfl) <| zq <| x_cond rfl (fun hc2 => ?_) (fun hc2 => ?_)
 ·
  have hkn : k < n := by omega
  obtain ⟨g, o, rfl, hca⟩ := h.byte (by omega)
  have hlt : x.toNat < 72057594037927936 := by
   have h1 := getB_lt (bs.take k)
   have h2 : (bs.take k).length = k := by rw [List.length_take]; omega
   have h3 : 256 ^ k ≤ 256 ^ 7 := Nat.pow_le_pow_right (by omega) (by omega)
   rw [h2] at h1
   omega
  refine x_skip <| .then_normal <| .s3 0 4 5 rfl rfl rfl <| x_seq <| x_block <| x_region <| mvI rfl <| tl_y rfl (y_mul64 (b := 256) rfl rfl) <| mvS rfl <| mvI rfl <| tl_y rfl (y_indexAddr rfl rfl (by omega)) <| tl_y rfl (y_load rfl rfl (.at_ (hca _ k hkn) (by omega))) <| tl_y rfl (y_u8u64 rfl) <| tl_y rfl (y_add64 rfl rfl) <| asI rfl <| tl_nil <| .block_normal <| .then_normal <| .s3 0 4 5 rfl rfl rfl <| x_region <| mvI rfl <| tl_y rfl (y_addI rfl rfl (by omega)) <| asI rfl <| tl_nil <| .loop_next (m' := n - (k + 1)) (by omega) (F' := [(0, _), (4, _), (5, _)]) (cs3 rfl rfl rfl) ?_
  exact ⟨k + 1, _, rfl, by omega, by
   have hc := (bs.getD k 0).toNat_lt
   rw [UInt64.toNat_add, UInt64.toNat_mul, UInt8.toNat_toUInt64, show (256 : UInt64).toNat = 256 from rfl, take_snoc bs k 0 (by omega), getB_snoc, hx]
   rw [hx] at hlt
   omega, rfl, rfl, rfl, rfl⟩
 refine x_exit <| .then_exit <| .loop_exit <| .block_exit <| .then_normal <| .s1 4 rfl <| zr <| mvI rfl <| asI rfl <| as0 rfl <| zq <| x_ret (ret2 rfl rfl rfl lR ⟨rfl, rfl, x, by rw [hx, List.take_of_length_le (by omega)], rfl⟩)
end
end Go.Proofs.YtplkoemjffplcaaGreatDoor
