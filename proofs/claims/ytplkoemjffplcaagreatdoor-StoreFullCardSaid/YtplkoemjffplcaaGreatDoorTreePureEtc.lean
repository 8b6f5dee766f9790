/-
Contracts of functions, each proved by a walk through its code.
-/
import Derived.Test.YtplkoemjffplcaaGreatDoorOncePureEtc
import Derived.Test.YtplkoemjffplcaaGreatDoorChainEtc
set_option linter.all false
namespace Go.Proofs.YtplkoemjffplcaaGreatDoor
open Go Go.Eng
theorem treeE_some {c : UInt32} (h : treeE c = 0) : ∃ x, treeOf c = some x ∧ treeV c = x := by
 unfold treeE at h
 unfold treeV
 cases e : treeOf c with
 | none => rw [e] at h; exact absurd h (by decide)
 | some x => exact ⟨x, rfl, rfl⟩
theorem treeT_facts (c : UInt32) : (∀ i, i < 20 → okC (treeT c i 5).kind (treeT c i 5).n ∧ 1 ≤ (treeT c i 5).h ∧ (treeT c i 5).h ≤ 25) ∧ (∀ i, i < 16 → okC (treeT c i 4).kind (treeT c i 4).n ∧ 1 ≤ (treeT c i 4).h ∧ (treeT c i 4).h ≤ 25) := by
 have h1 : ∀ i : Fin 20, okC (treeT 0 i.val 5).kind (treeT 0 i.val 5).n ∧ 1 ≤ (treeT 0 i.val 5).h ∧ (treeT 0 i.val 5).h ≤ 25 := by decide +kernel
 have h2 : ∀ i : Fin 16, okC (treeT 0 i.val 4).kind (treeT 0 i.val 4).n ∧ 1 ≤ (treeT 0 i.val 4).h ∧ (treeT 0 i.val 4).h ≤ 25 := by decide +kernel
 exact ⟨fun i hi => h1 ⟨i, hi⟩, fun i hi => h2 ⟨i, hi⟩⟩
theorem treeV_facts {c : UInt32} (h : treeE c = 0) : okC (treeV c).kind (treeV c).n ∧ 1 ≤ (treeV c).h ∧ (treeV c).h ≤ 25 := by
 obtain ⟨x, h1, h2⟩ := treeE_some h
 rw [h2]
 unfold treeOf at h1
 split at h1
 ·
  obtain rfl := Option.some.inj h1; exact (treeT_facts c).1 _ (by omega)
 split at h1
 ·
  obtain rfl := Option.some.inj h1; exact (treeT_facts c).2 _ (by omega)
 cases h1
theorem tree_eq {a b : TreeV} (h : (a.code.toNat : Int) = b.code.toNat ∧ a.kind = b.kind ∧ a.n = b.n ∧ a.h = b.h ∧ True) : a = b := by
 obtain ⟨h1, h2, h3, h4, _⟩ := h
 cases a; cases b
 simp only [TreeV.mk.injEq]
 exact ⟨UInt32.toNat_inj.1 (Int.ofNat_inj.1 h1), h2, h3, h4⟩
theorem eq_tree {a b : TreeV} (h : a = b) : (a.code.toNat : Int) = b.code.toNat ∧ a.kind = b.kind ∧ a.n = b.n ∧ a.h = b.h ∧ True := by
 subst h; exact ⟨rfl, rfl, rfl, rfl, trivial⟩
theorem pw2_half {a b : Nat} (h : b < a) : pw2 (a - b) / 2 = pw2 (a - (b + 1)) ∧ pw2 (a - b) = 2 * pw2 (a - (b + 1)) := by
 have : a - b = (a - (b + 1)) + 1 := by omega
 rw [this, pw2, pw2, Nat.pow_succ]
 omega
def okS (t : TreeV) (nl : Nat) : Prop := treeE t.code = 0 ∧ treeV t.code = t ∧ nl = 16
instance {t : TreeV} {nl : Nat} : Decidable (okS t nl) := inferInstanceAs (Decidable (_ ∧ _))
def okM (t : TreeV) (nl kl : Nat) : Prop := okS t nl ∧ t.h ≤ 10 ∧ kl = leavesN t.h
instance {t : TreeV} {nl kl : Nat} : Decidable (okM t nl kl) := inferInstanceAs (Decidable (_ ∧ _))
theorem okS_facts {t : TreeV} {nl : Nat} (h : okS t nl) : okC t.kind t.n ∧ ∃ H : Nat, t.h = (H : Int) ∧ 1 ≤ H ∧ H ≤ 25 ∧ leavesN t.h = pw2 H := by
 have hf := treeV_facts h.1
 rw [h.2.1] at hf
 refine ⟨hf.1, t.h.toNat, by omega, by omega, by omega, by rw [leavesN, if_neg (by omega)]⟩
def leafB (t : TreeV) (name : List UInt8) (q : Nat) (key : List UInt8) : List UInt8 := cPart t.kind t.n name (pw2 t.h.toNat + q) 33410 key
def innB (t : TreeV) (name : List UInt8) (place : Nat) (text : List UInt8) : List UInt8 := cPart t.kind t.n name place 33667 text
def leavesB (t : TreeV) (name : List UInt8) (keys : List (List UInt8)) (k : Nat) : List (List UInt8) := (List.range k).map fun q => leafB t name q (keys.getD q [])
def nextB (t : TreeV) (name : List UInt8) (row : List (List UInt8)) (k : Nat) : List (List UInt8) := (List.range k).map fun i => innB t name (row.length / 2 + i) (row.getD (2 * i) [] ++ row.getD (2 * i + 1) [])
def lvl (t : TreeV) (name : List UInt8) (keys : List (List UInt8)) : Nat → List (List UInt8)
 | 0 => leavesB t name keys keys.length
 | h + 1 => nextB t name (lvl t name keys h) ((lvl t name keys h).length / 2)
theorem leavesB_len (t : TreeV) (name : List UInt8) (keys : List (List UInt8)) (k : Nat) : (leavesB t name keys k).length = k := by simp [leavesB]
theorem nextB_len (t : TreeV) (name : List UInt8) (row : List (List UInt8)) (k : Nat) : (nextB t name row k).length = k := by simp [nextB]
theorem leavesB_succ (t : TreeV) (name : List UInt8) (keys : List (List UInt8)) (k : Nat) : leavesB t name keys (k + 1) = leavesB t name keys k ++ [leafB t name k (keys.getD k [])] := by
 rw [leavesB, List.range_succ, List.map_append]; rfl
theorem nextB_succ (t : TreeV) (name : List UInt8) (row : List (List UInt8)) (k : Nat) : nextB t name row (k + 1) = nextB t name row k ++ [innB t name (row.length / 2 + k) (row.getD (2 * k) [] ++ row.getD (2 * k + 1) [])] := by
 rw [nextB, List.range_succ, List.map_append]; rfl
theorem lvl_len (t : TreeV) (name : List UInt8) (keys : List (List UInt8)) {H : Nat} (hk : keys.length = pw2 H) : ∀ h, h ≤ H → (lvl t name keys h).length = pw2 (H - h)
 | 0, _ => by rw [lvl, leavesB_len, hk, Nat.sub_zero]
 | h + 1, hh => by rw [lvl, nextB_len, lvl_len t name keys hk h (by omega), (pw2_half (by omega)).1]
theorem leavesB_get (t : TreeV) (name : List UInt8) (keys : List (List UInt8)) {k i : Nat} (h : i < k) : (leavesB t name keys k).getD i [] = leafB t name i (keys.getD i []) := by
 rw [List.getD_eq_getElem?_getD, leavesB, List.getElem?_map, List.getElem?_range h]; rfl
theorem nextB_get (t : TreeV) (name : List UInt8) (row : List (List UInt8)) {k i : Nat} (h : i < k) : (nextB t name row k).getD i [] = innB t name (row.length / 2 + i) (row.getD (2 * i) [] ++ row.getD (2 * i + 1) []) := by
 rw [List.getD_eq_getElem?_getD, nextB, List.getElem?_map, List.getElem?_range h]; rfl
theorem cSum_le (kind n : Int) (text : List UInt8) : (cSum kind n text).length ≤ 32 := by
 unfold cSum
 split
 ·
  rename_i h
  rw [csum_length h _ (sha_length _)]
  rcases h.2 with h | h <;> subst h <;> decide
 simp
theorem cPart_le (kind n : Int) (name : List UInt8) (q d : Nat) (text : List UInt8) : (cPart kind n name q d text).length ≤ 32 := by
 unfold cPart
 split
 ·
  exact cSum_le _ _ _
 simp
theorem innB_le (t : TreeV) (name : List UInt8) (q : Nat) (text : List UInt8) : (innB t name q text).length ≤ 32 := cPart_le _ _ _ _ _ _
theorem leafB_le (t : TreeV) (name : List UInt8) (q : Nat) (text : List UInt8) : (leafB t name q text).length ≤ 32 := cPart_le _ _ _ _ _ _
def short32 (row : List (List UInt8)) : Prop := ∀ b ∈ row, b.length ≤ 32
theorem short32.get {row : List (List UInt8)} (h : short32 row) (i : Nat) : (row.getD i []).length ≤ 32 := by
 by_cases hi : i < row.length
 ·
  exact h _ (getD_mem _ _ _ hi)
 rw [List.getD_eq_getElem?_getD, List.getElem?_eq_none (by omega)]; simp
theorem leavesB_short (t : TreeV) (name : List UInt8) (keys : List (List UInt8)) (k : Nat) : short32 (leavesB t name keys k) := by
 intro b hb
 rw [leavesB, List.mem_map] at hb
 obtain ⟨q, _, rfl⟩ := hb
 exact leafB_le _ _ _ _
theorem nextB_short (t : TreeV) (name : List UInt8) (row : List (List UInt8)) (k : Nat) : short32 (nextB t name row k) := by
 intro b hb
 rw [nextB, List.mem_map] at hb
 obtain ⟨q, _, rfl⟩ := hb
 exact innB_le _ _ _ _
theorem lvl_short (t : TreeV) (name : List UInt8) (keys : List (List UInt8)) : ∀ h, short32 (lvl t name keys h)
 | 0 => leavesB_short _ _ _ _
 | h + 1 => nextB_short _ _ _ _
structure MrG (M : Mem) : Prop where
 sha : ShaG M
 kec : KecG M
 set : SetT M
theorem MrG.mono {M M' : Mem} (h : MrG M) (hle : Le M M') : MrG M' := ⟨h.sha.mono hle, h.kec.mono hle, h.set.mono hle⟩
theorem shl32_h {H : Nat} (h : H ≤ 25) : (shl32 1 H).toNat = pw2 H := by
 have h1 := pw2_25 h
 have h2 : pw2 H = 2 ^ H := rfl
 rw [shl32, UInt32.toNat_ofNat', show (1 : UInt32).toNat = 1 from rfl, Nat.one_mul, ← h2, Nat.mod_eq_of_lt (by omega)]
section
variable {G : World} {M : Mem} {L : Own}
theorem mright_spec (hg : MrG M) (t : TreeV) {NA : Option Addr} {nl nc : Nat} :
  Con Tryz.prog 226 #[.agg (List.toArray t.cells), .slice NA nl nc] G M L (fun v M' L' => L = L' ∧ v = .bool (decide (okS t nl))) noPanic := by
 refine zfn Tryz.func226 rfl 25 rfl <| zr <| tl_e rfl <| e_box rfl <| fun b1 => as0 rfl <| zq <| zr <| tFa rfl <| tLd rfl rfl <| zca rfl (Tree_spec hg.set t.code) ?_
 rintro _ M1 _ hM1 ⟨rfl, rfl⟩
 refine mvU rfl <| zx rfl <| zx rfl <| tl_e rfl <| e_alloc <| fun b2 => tl_e rfl <| e_sT rfl rfl <| asI rfl <| zq <| .s4 1 2 5 6 rfl rfl rfl rfl <| x_join (I := fun F D M2 L2 => ∃ b : Bool, (b = true ↔ okS t nl) ∧ D = [] ∧ M1 = M2 ∧ DropTo L2 L ∧ F = [(4, .bool b)]) ?_ (fun Jq2 => ?_)
 ·
  rintro _ _ _ L2 ⟨b, hb, rfl, rfl, hdr, rfl⟩
  refine x_ret (.dropTo L hdr (ret1 rfl rfl hM1 ⟨rfl, by rw [bool_iff hb]⟩))
 refine x_region <| mvI rfl <| tl_y rfl (y_eql rfl rfl) <| mvB rfl <| tl_cases (s := 15) rfl (fun hk1 => ?_) (fun hk1 => ?_)
 ·
  refine tLg rfl rfl <| tLg rfl rfl <| tl_y rfl (y_eqlS rfl rfl eqs105) <| tPt rfl rfl <| mvB rfl <| tl_cases (s := 20) rfl (fun hk2 => ?_) (fun hk2 => ?_)
  ·
   refine mvS rfl <| tLen rfl <| tl_y rfl (y_eql rfl rfl) <| tPt rfl rfl <| asB rfl <| zq <| .sub (F' := [(4, _)]) (.cons rfl .nil) <| Jq2 _ _ _ _ ?_
   exact ⟨_, by
    constructor
    ·
     intro ht
     first | (cases ht; done) | (simp at ht; exact ⟨hk1, tree_eq hk2, by omega⟩)
    rintro ⟨a1, a2, a3⟩
    first | exact absurd a1 hk1 | exact absurd (eq_tree a2) hk2 | (simp; omega) | omega, rfl, rfl, iI, rfl⟩
  refine sk3 rfl rfl rfl <| tPf rfl rfl <| asB rfl <| zq <| .sub (F' := [(4, _)]) (.cons rfl .nil) <| Jq2 _ _ _ _ ?_
  exact ⟨_, by
   constructor
   ·
    intro ht
    first | (cases ht; done) | (simp at ht; exact ⟨hk1, tree_eq hk2, by omega⟩)
   rintro ⟨a1, a2, a3⟩
   first | exact absurd a1 hk1 | exact absurd (eq_tree a2) hk2 | (simp; omega) | omega, rfl, rfl, iI, rfl⟩
 refine sk3 rfl rfl rfl <| tPf rfl rfl <| mvB rfl <| sk3 rfl rfl rfl <| tPf rfl rfl <| asB rfl <| zq <| .sub (F' := [(4, _)]) (.cons rfl .nil) <| Jq2 _ _ _ _ ?_
 exact ⟨_, by
  constructor
  ·
   intro ht
   first | (cases ht; done) | (simp at ht; exact ⟨hk1, tree_eq hk2, by omega⟩)
  rintro ⟨a1, a2, a3⟩
  first | exact absurd a1 hk1 | exact absurd (eq_tree a2) hk2 | (simp; omega) | omega, rfl, rfl, iI, rfl⟩
theorem May_spec (hg : MrG M) (t : TreeV) {NA KA : Option Addr} {nl nc kl kc : Nat} (hk : kl ≤ 9223372036854775807) :
  Con Tryz.prog 193 #[.agg (List.toArray t.cells), .slice NA nl nc, .slice KA kl kc] G M L (fun v M' L' => L = L' ∧ v = .bool (decide (okM t nl kl))) noPanic := by
 refine zfn Tryz.func193 rfl 23 rfl <| zr <| tl_e rfl <| e_box rfl <| fun b1 => as0 rfl <| zq <| x_join (I := fun F D M2 L2 => ∃ b : Bool, (b = true ↔ okM t nl kl) ∧ D = [] ∧ Le M M2 ∧ DropTo L2 L ∧ F = [(6, .bool b)]) ?_ (fun Jq1 => ?_)
 ·
  rintro _ _ _ L2 ⟨b, hb, rfl, hm, hdr, rfl⟩
  refine x_ret (.dropTo L hdr (ret1 rfl rfl hm ⟨rfl, by rw [bool_iff hb]⟩))
 refine x_region <| tLg rfl rfl <| mvS rfl <| zca rfl (mright_spec hg t) ?_
 rintro _ M1 _ hM1 ⟨rfl, rfl⟩
 refine mvB rfl <| tl_casesb (s := 10) rfl (fun hk1 => ?_) (fun hk1 => ?_)
 ·
  refine tFa rfl <| tLd rfl rfl <| tl_y rfl (y_leq rfl rfl) <| tPt rfl rfl <| mvB rfl <| tl_cases (s := 15) rfl (fun hk2 => ?_) (fun hk2 => ?_)
  ·
   refine mvS rfl <| tLen rfl <| tl_y rfl (y_convN64 rfl (by omega)) <| tLg rfl rfl ?_
   refine zca rfl (Leaves_spec t) ?_
   rintro _ _ _ _ ⟨rfl, rfl, rfl⟩
   refine tl_y rfl (y_eql rfl rfl) <| tPt rfl rfl <| asB rfl <| zq <| .sub (F' := [(6, _)]) (.cons rfl .nil) <| Jq1 _ _ _ _ ?_
   exact ⟨_, by
    constructor
    ·
     intro ht
     first | (cases ht; done) | (simp at ht; exact ⟨by simpa using hk1, by omega, by omega⟩)
    rintro ⟨a1, a2, a3⟩
    first | exact absurd (by simpa using a1) hk1 | exact absurd (decide_eq_true a1) hk1 | (simp [a1] at hk1; done) | (simp; omega) | omega, rfl, hM1, iI, rfl⟩
  refine sk6 rfl rfl rfl rfl rfl rfl <| tPf rfl rfl <| asB rfl <| zq <| .sub (F' := [(6, _)]) (.cons rfl .nil) <| Jq1 _ _ _ _ ?_
  exact ⟨_, by
   constructor
   ·
    intro ht
    first | (cases ht; done) | (simp at ht; exact ⟨by simpa using hk1, by omega, by omega⟩)
   rintro ⟨a1, a2, a3⟩
   first | exact absurd (by simpa using a1) hk1 | exact absurd (decide_eq_true a1) hk1 | (simp [a1] at hk1; done) | (simp; omega) | omega, rfl, hM1, iI, rfl⟩
 refine sk3 rfl rfl rfl <| tPf rfl rfl <| mvB rfl <| sk6 rfl rfl rfl rfl rfl rfl <| tPf rfl rfl <| asB rfl <| zq <| .sub (F' := [(6, _)]) (.cons rfl .nil) <| Jq1 _ _ _ _ ?_
 exact ⟨_, by
  constructor
  ·
   intro ht
   first | (cases ht; done) | (simp at ht; exact ⟨by simpa using hk1, by omega, by omega⟩)
  rintro ⟨a1, a2, a3⟩
  first | exact absurd (by simpa using a1) hk1 | exact absurd (decide_eq_true a1) hk1 | (simp [a1] at hk1; done) | (simp; omega) | omega, rfl, hM1, iI, rfl⟩
theorem leaf_spec (hg : MrG M) (t : TreeV) {H : Nat} (hH : t.h = (H : Int)) (hH5 : H ≤ 25) {NA : Option Addr} {nl nc : Nat} {name : List UInt8} (hname : Bytes M NA nl nc name) (q : UInt32) (hq : q.toNat < pw2 H) {A : Option Addr} {m c : Nat} {key : List UInt8} (h : Bytes M A m c key) (hm : m ≤ 1000000000000) :
  Con Tryz.prog 227 #[.agg (List.toArray t.cells), .slice NA nl nc, .int .u32 (q.toNat : Int), .slice A m c] G M L (fun v M' L' => L = L' ∧ ∃ A' m' c', v = .slice A' m' c' ∧ Bytes M' A' m' c' (leafB t name q.toNat key)) noPanic := by
 have hp := pw2_25 hH5
 have hms := h.size
 obtain ⟨x, hx⟩ : ∃ x : UInt32, x.toNat = pw2 H + q.toNat := ⟨UInt32.ofNat (pw2 H + q.toNat), by rw [UInt32.toNat_ofNat', Nat.mod_eq_of_lt (by omega)]⟩
 refine zfn Tryz.func227 rfl 22 rfl <| zr <| tl_e rfl <| e_box rfl <| fun b1 => as0 rfl <| zq <| x_seq ?_
 have hd : Le M M := Le.refl _
 refine x_draw 14 hmix rfl <| pFa 0 rfl rfl <| pLd 1 rfl rfl rfl <| pFa 2 rfl rfl <| pLd 3 rfl rfl rfl <| pmS 4 rfl rfl <| pFa 5 rfl rfl <| pLd 6 rfl rfl rfl ?_
 rw [hH]
 refine zp 7 rfl rfl (y_shl32 (a := 1) rfl rfl) ?_
 rw [show u32v (shl32 1 H) = .int .u32 ((pw2 H : Nat) : Int) from congrArg (fun (x : Nat) => Value.int .u32 (x : Int)) (shl32_h hH5)]
 refine pmI 8 rfl rfl <| zp 9 rfl rfl (y_addN32 rfl rfl (by omega)) ?_
 rw [show ((pw2 H : Nat) : Int) + (q.toNat : Int) = ((x.toNat : Nat) : Int) by rw [hx]; omega]
 refine pmS 10 rfl rfl <| ze 11 rfl rfl <| e_buildSlice rfl (by decide) <| fun b2 => ⟨⟨hd, Keeps.mem⟩, ?_⟩
 refine .pub b2 iI <| fun M1 hM1 hb2 => ?_
 replace hd := hd.trans hM1
 refine ze 12 rfl rfl <| e_call' rfl (Part_spec (hg.mono hd).sha (hg.mono hd).kec t.kind t.n (hname.mono hd) x 33410 (by omega) (Row.whole hb2 rfl (by omega)) (.cons (h.mono hd) .nil) (by simp; omega)) ?_
 rintro _ M2 _ hM2 ⟨rfl, A2, m2, c2, rfl, hA2⟩
 rw [hx, show [key].flatten = key by simp] at hA2
 replace hd := hd.trans hM2
 refine kp ?_
 refine paS 13 rfl rfl <| zz <| .then_normal <| .s1 8 rfl <| x_ret (.dropTo L iI (ret1 rfl rfl hd ⟨rfl, _, _, _, rfl, by rw [leafB, hH, Int.toNat_natCast]; exact hA2⟩))
theorem inner_spec (hg : MrG M) (t : TreeV) {NA : Option Addr} {nl nc : Nat} {name : List UInt8} (hname : Bytes M NA nl nc name) (q : UInt32) {A B : Option Addr} {m c m2 c2 : Nat} {x y : List UInt8} (h : Bytes M A m c x) (hm : m ≤ 100000000000) (h2 : Bytes M B m2 c2 y) (hm2 : m2 ≤ 100000000000) :
  Con Tryz.prog 228 #[.agg (List.toArray t.cells), .slice NA nl nc, .int .u32 (q.toNat : Int), .slice A m c, .slice B m2 c2] G M L (fun v M' L' => L = L' ∧ ∃ A' m' c', v = .slice A' m' c' ∧ Bytes M' A' m' c' (innB t name q.toNat (x ++ y))) noPanic := by
 have hms := h.size
 have hms2 := h2.size
 refine zfn Tryz.func228 rfl 21 rfl <| zr <| tl_e rfl <| e_box rfl <| fun b1 => as0 rfl <| zq <| zr <| tFa rfl <| tLd rfl rfl <| tFa rfl <| tLd rfl rfl <| mvS rfl <| mvI rfl <| mvS rfl <| mvS rfl <| tl_e rfl <| e_buildSlice rfl (by decide) <| fun b2 => .pub b2 iI <| fun M1 hd hb2 => zca rfl (Part_spec (hg.mono hd).sha (hg.mono hd).kec t.kind t.n (hname.mono hd) q 33667 (by omega) (Row.whole hb2 rfl (by omega)) (.cons (h.mono hd) (.cons (h2.mono hd) .nil)) (by simp; omega)) ?_
 rintro _ M2 _ hM2 ⟨rfl, A2, m3, c3, rfl, hA2⟩
 rw [show [x, y].flatten = x ++ y by simp] at hA2
 refine asS rfl <| zq <| .s1 10 rfl <| x_ret (.dropTo L iI (ret1 rfl rfl (hd.trans hM2) ⟨rfl, _, _, _, rfl, hA2⟩))
end
def RowsAt (M : Mem) (ws : List Value) (f : Nat → List (List UInt8)) : Prop := ∀ h, h < ws.length → ∃ A n c vs, ws[h]? = some (.slice A n c) ∧ Row M 1 A n c vs ∧ BRows M vs (f h)
theorem RowsAt.mono {M M' : Mem} {ws : List Value} {f : Nat → List (List UInt8)} (h : RowsAt M ws f) (hle : Le M M') : RowsAt M' ws f := fun i hi =>
 let ⟨A, n, c, vs, h1, h2, h3⟩ := h i hi
 ⟨A, n, c, vs, h1, h2.mono hle, h3.mono hle⟩
theorem RowsAt.snoc {M : Mem} {ws : List Value} {f : Nat → List (List UInt8)} (h : RowsAt M ws f) {A : Option Addr} {n c : Nat} {vs : List Value} (h2 : Row M 1 A n c vs) (h3 : BRows M vs (f ws.length)) : RowsAt M (ws ++ [.slice A n c]) f := fun i hi => by
 rw [List.length_append, List.length_singleton] at hi
 by_cases hlt : i < ws.length
 ·
  obtain ⟨A', n', c', vs', h4, h5, h6⟩ := h i hlt
  exact ⟨A', n', c', vs', by rw [List.getElem?_append_left hlt]; exact h4, h5, h6⟩
 obtain rfl : i = ws.length := by omega
 exact ⟨A, n, c, vs, by rw [List.getElem?_append_right (Nat.le_refl _), Nat.sub_self]; rfl, h2, h3⟩
section
variable {G : World} {M : Mem} {L : Own}
theorem pairs_spec {A : Option Addr} {n c : Nat} :
  Con Tryz.prog 242 #[.slice A n c] G M L (fun v M' L' => M = M' ∧ ∃ x0, L' = (x0, .cells #[.slice A n c] 44 (0, 0)) :: L ∧ v = .func (.func 268) #[] #[.pointer (some ⟨x0, 0, none⟩)]) noPanic := by
 refine zfn Tryz.func242 rfl 4 rfl <| zr <| tl_e rfl <| e_box rfl <| fun b1 => as0 rfl <| zq <| zr <| tl_y rfl (y_makeFunc rfl rfl) <| asF rfl <| zq <| x_ret (ret1 rfl rfl lR ⟨rfl, b1, rfl, rfl⟩)
theorem pairs1_spec {l x0 : Nat} {A : Option Addr} {n c : Nat} {vs : List Value} {bss : List (List UInt8)} {X0 : Own} (hr : Row M 1 A n c vs) (hb : BRows M vs bss) (hn : n ≤ 1000000000000) {Inv : Nat → Mem → Own → Prop} {Dn : Mem → Own → Prop}
  (hy : ∀ k M1 X1 A1 n1 c1 A2 n2 c2, 2 * k + 1 < n → Bytes M A1 n1 c1 (bss.getD (2 * k) []) → Bytes M A2 n2 c2 (bss.getD (2 * k + 1) []) → Le M M1 → Inv k M1 X1 → YCon Tryz.prog l [.int .i64 (k : Nat), .agg #[.slice A1 n1 c1, .slice A2 n2 c2]] G M1 X1 (Inv (k + 1)) Dn) (h0 : Inv 0 M X0) :
  Con Tryz.prog 268 #[.func (.yield l) #[] #[], .pointer (some ⟨x0, 0, none⟩)] G M ((x0, .cells #[.slice A n c] 44 (0, 0)) :: X0)
   (fun v M' L' => ∃ X', L' = (x0, .cells #[.slice A n c] 44 (0, 0)) :: X' ∧ (Inv (n / 2) M' X' ∨ Dn M' X')) noPanic := by
 have hmx := hr.max
 have hle := hr.le
 have hvl := hb.len
 have hnl : vs.length = n := by have := hr.len; omega
 refine zfn Tryz.func268 rfl 26 rfl <| zr <| as0 rfl <| zq <| x_block ?_
 refine x_loop (I := fun m' F D M1 L1 => ∃ (k : Nat) (X1 : Own), m' = n / 2 - k ∧ k ≤ n / 2 ∧ Le M M1 ∧ Inv k M1 X1 ∧ D = [] ∧ L1 = (x0, .cells #[.slice A n c] 44 (0, 0)) :: X1 ∧ F = [(0, .func (.yield l) #[] #[]), (1, .pointer (some ⟨x0, 0, none⟩)), (3, .int .i64 ((2 * k : Nat) : Int))]) (n / 2) (F0 := [(0, _), (1, _), (3, _)]) ?_ (cs3 rfl rfl rfl) ?_
 ·
  exact ⟨0, X0, rfl, by omega, Le.refl _, h0, rfl, rfl, rfl⟩
 rintro m _ _ M1 L1 ⟨k, X1, rfl, hk, hM1, hI, rfl, rfl, rfl⟩
 refine zr2 <| mvI rfl <| tl_y rfl (y_addI rfl rfl (by omega)) <| tLd rfl rfl <| tLen rfl <| tl_y rfl (y_lss rfl rfl) <| zq <| .s4 0 1 3 8 rfl rfl rfl rfl <| x_cond rfl (fun hc1 => ?_) (fun hc1 => ?_)
 ·
  have hkn : 2 * k + 1 < n := by omega
  obtain ⟨g, o, rfl, hcell⟩ := (hr.mono hM1).addr (by omega)
  obtain ⟨A1, n1, c1, hv1, hb1⟩ := hb.get (2 * k) (by omega)
  obtain ⟨A2, n2, c2, hv2, hb2⟩ := hb.get (2 * k + 1) (by omega)
  refine x_skip <| .then_normal <| x_seq <| x_block <| x_seq <| x_draw0 15 ([(x0, .cells #[.slice (some ⟨g, o, none⟩) n c] 44 (0, 0))]) Keeps.mem hmix rfl <| pmF 0 rfl rfl <| pmI 1 rfl rfl <| zp 2 rfl rfl (y_quoI rfl rfl (by omega)) ?_
  rw [show ((2 * k : Nat) : Int) / 2 = (k : Int) by omega]
  refine pLd 3 rfl rfl rfl <| pmI 4 rfl rfl <| zp 5 rfl rfl (y_indexAddr rfl rfl (by omega)) <| zy 6 rfl rfl (y_load rfl rfl (.at_ (hcell _ (2 * k) _ hv1) (by omega))) <| pLd 7 rfl rfl rfl <| pmI 8 rfl rfl <| zp 9 rfl rfl (y_addI rfl rfl (by omega)) <| zp 10 rfl rfl (y_indexAddr rfl rfl (by omega)) <| zy 11 rfl rfl (y_load rfl rfl (.at_ (hcell _ (2 * k + 1) _ hv2) (by omega))) ?_
  refine zp 12 rfl rfl (y_buildArr rfl) <| ze 13 rfl rfl <| e_yieldB (R := [(x0, .cells #[.slice (some ⟨g, o, none⟩) n c] 44 (0, 0))]) (X := X1) rfl rfl (hy k M1 X1 _ _ _ _ _ _ hkn hb1 hb2 hM1 hI) <| fun b M2 X2 hM2 hb => ?_
  rw [List.singleton_append]
  refine kp ?_
  refine zp 14 rfl rfl (y_not rfl) <| zz <| .then_normal <| .s4 0 1 3 25 rfl rfl rfl rfl <| x_condb rfl (fun hc2 => ?_) (fun hc2 => ?_)
  ·
   refine x_ret (.block_ret (.then_ret (.loop_ret (.block_ret (ret0 rfl (hM1.trans hM2) ⟨X2, rfl, by
    rcases hb with ⟨rfl, _⟩ | ⟨_, hb⟩
    ·
     simp at hc2
    exact .inr hb⟩)))))
  refine x_skip <| .block_normal <| .then_normal <| x_region <| mvI rfl <| tl_y rfl (y_addI rfl rfl (by omega)) ?_
  rw [show ((2 * k : Nat) : Int) + 2 = ((2 * (k + 1) : Nat) : Int) by omega]
  refine asI rfl <| tl_nil <| .loop_next (m' := n / 2 - (k + 1)) (by omega) (F' := [(0, _), (1, _), (3, _)]) (cs3 rfl rfl rfl) ?_
  exact ⟨k + 1, X2, rfl, by omega, hM1.trans hM2, by
   rcases hb with ⟨_, hb⟩ | ⟨rfl, hb⟩
   ·
    exact hb
   simp at hc2, rfl, rfl, rfl⟩
 refine x_exit (.then_exit (.loop_exit (.block_exit (end0 rfl hM1 ⟨X1, rfl, .inl (by
  obtain rfl : k = n / 2 := by omega
  exact hI)⟩))))
end
theorem tr_y {P : Program} {n : Nat} {Q : Post} {F : Fr} {D : List Deferred} {G : World} {M : Mem} {L : Own} {d : Tmp} {op : Op} {ty : TypeId} {v : Value} {K : Fr → List Deferred → Mem → Own → Prop} (hy : Yld P op ty F M L v) (h : K ((d, v) :: F) D M L) : Tr P n (some d) op ty Q F D G M L K := fun hok w a hw ha => by
 have hd : d < n := by simp only [okOp, Nat.blt_eq] at hok; exact hok
 exact hy.wpIn hw.sees (fun x u hx => ha.eval hx) ⟨_, D, M, L, ha.put hd v, hw, h⟩
def marksB (rs : List Nat) : Own := rs.map fun r => (r, .deferred (some []))
theorem lv_marks {P : Program} {F : Fr} {G : World} {M M0 : Mem} {K : Value → Mem → Own → Prop} {Kp : List PanicEntry → Mem → Own → Prop} {fn : Func} {v : Value} {L' L1 : Own} (hv : RV P fn F M L' v) (hd : DropTo L' L1) (hle : Le M0 M) (hK : K v M L1) (tmps : Array Value) (ht : ∀ i u, Eng.look F i = some u → tmps.getD i undef = u) :
  ∀ (rs : List Nat) (w : World), St G M (marksB rs ++ L') w → Lv P fn tmps (RR G M0 K Kp) (rs.map Eng.mark) .returning w
 | [], w, hw => lv_end hv hd hle hK w hw tmps ht
 | r :: rs, w, hw => by
  have hw' : St G M ((r, .deferred (some [])) :: (marksB rs ++ L')) w := hw
  exact ⟨by simp, r, rfl, (hw'.own _ List.mem_cons_self).1, lv_marks hv hd hle hK tmps ht rs _ (hw'.setObj (o' := .deferred none)).drop⟩
theorem _root_.Go.Eng.TQ.retMs {P : Program} {F : Fr} {G : World} {M M0 : Mem} {K : Value → Mem → Own → Prop} {Kp : List PanicEntry → Mem → Own → Prop} {fn : Func} {v : Value} {L L' L1 : Own} {rs : List Nat} (hs : PermTo L (marksB rs ++ L')) (hv : RV P fn F M L' v) (hd : DropTo L' L1) (hle : Le M0 M) (hK : K v M L1) : TQ (retMQ P fn G M0 K Kp) .ret F (rs.map Eng.mark) G M L := fun w hw tmps ht =>
 lv_marks hv hd hle hK tmps ht rs w (hw.perm hs.perm)
section
variable {G : World} {M : Mem} {L : Own}
theorem rows_spec (hg : MrG M) (t : TreeV) {H : Nat} (hH : t.h = (H : Int)) (hH5 : H ≤ 20) {NA : Option Addr} {nl nc : Nat} {name : List UInt8} (hname : Bytes M NA nl nc name) {KA : Option Addr} {kl kc : Nat} {kvs : List Value} {keys : List (List UInt8)} (hk : Row M 1 KA kl kc kvs) (hkb : BRows M kvs keys) (hkl : kl = pw2 H) (hks : ∀ b ∈ keys, b.length ≤ 1000000000000) :
  Con Tryz.prog 194 #[.agg (List.toArray t.cells), .slice NA nl nc, .slice KA kl kc] G M L (fun v M' L' => L = L' ∧ ∃ A' c' ws, v = .slice A' (H + 1) c' ∧ Row M' 1 A' (H + 1) c' ws ∧ RowsAt M' ws (lvl t name keys)) noPanic := by
 have hp := pw2_25 (h := H) (by omega)
 have hmx := hk.max
 have hle := hk.le
 have hvl := hkb.len
 have hkn : kvs.length = kl := by have := hk.len; omega
 refine enterM (args := [_, _, _]) (fn := Tryz.f194) ⟨Tryz.func194, rfl, by kernel_rfl, by kernel_rfl⟩ 62 rfl <| zr <| tl_e rfl <| e_box rfl <| fun b1 => tl_e rfl <| e_box rfl <| fun b2 => as0 rfl <| zq <| zr <| tl_e rfl <| e_alloc <| fun b3 => zq <| zr2 <| mvS rfl <| tLen rfl <| mv0 rfl <| zq <| .s6 3 4 7 14 15 16 rfl rfl rfl rfl rfl rfl <| x_block ?_
 refine x_loop (I := fun m' F D M1 L1 => ∃ (k : Nat) (A1 : Option Addr) (c1 : Nat) (E : Own) (vs : List Value), m' = kl - k ∧ k ≤ kl ∧ Le M M1 ∧ OwnRow 22 1 A1 k c1 vs E ∧ BRows M1 vs (leavesB t name keys k) ∧ D = [] ∧ L1 = (b3, .cells #[.slice A1 k c1] 44 (0, 0)) :: (E ++ ((b2, .cells #[.slice NA nl nc] 22 (0, 0)) :: (b1, .cells (List.toArray t.cells) 105 (0, 0)) :: L)) ∧ F = [(3, .pointer (some ⟨b1, 0, none⟩)), (4, .pointer (some ⟨b2, 0, none⟩)), (7, .pointer (some ⟨b3, 0, none⟩)), (14, .slice KA kl kc), (15, .int .i64 kl), (16, .int .i64 k)]) (kl) (F0 := [(3, _), (4, _), (7, _), (14, _), (15, _), (16, _)]) ?_ (cs6 rfl rfl rfl rfl rfl rfl) ?_
 ·
  exact ⟨0, none, 0, [], [], rfl, by omega, Le.refl _, .nil, .nil, rfl, rfl, rfl⟩
 rintro m _ _ M1 L1 ⟨k, A1, c1, E, vs, rfl, hkk, hd, hE, hB, rfl, rfl, rfl⟩
 refine zr <| tl_y rfl (y_lss rfl rfl) <| zq <| x_seq <| x_cond rfl (fun hc1 => ?_) (fun hc1 => ?_)
 ·
  have hkn : k < kl := by omega
  obtain ⟨g, o, rfl, hcell⟩ := (hk.mono hd).addr (by omega)
  obtain ⟨A2, n2, c2, hv2, hb2⟩ := hkb.get k (by omega)
  have hn2 := hb2.size
  have hb2l := hks _ (getD_mem keys k [] (by omega))
  obtain ⟨q, hq⟩ : ∃ q : UInt32, q.toNat = k := ⟨UInt32.ofNat k, by rw [UInt32.toNat_ofNat', Nat.mod_eq_of_lt (by omega)]⟩
  refine x_skip <| .then_normal <| x_seq <| x_block <| zr <| mvI rfl <| tl_y rfl (y_indexAddr rfl rfl (by omega)) <| tl_y rfl (y_load rfl rfl (.at_ (hcell _ k _ hv2) (by omega))) <| asI rfl <| asS rfl <| zq <| .s8 3 4 7 8 9 14 15 16 rfl rfl rfl rfl rfl rfl rfl rfl ?_
  have he : Le M1 M1 := Le.refl _
  refine x_draw 8 hmix rfl <| pLd 0 rfl rfl rfl <| zy 1 rfl rfl (y_lg rfl rfl) <| pLd 2 rfl rfl rfl <| pmI 3 rfl rfl <| zp 4 rfl rfl (y_convN32 rfl (by omega)) ?_
  rw [show ((k : Nat) : Int) = ((q.toNat : Nat) : Int) by rw [hq]]
  refine pmS 5 rfl rfl <| ze 6 rfl rfl <| e_call' rfl (leaf_spec (hg.mono hd) t hH (by omega) (hname.mono hd) q (by omega) (hb2.mono hd) (by omega)) ?_
  rintro _ M3 _ hM3 ⟨rfl, A3, m3, c3, rfl, hA3⟩
  rw [hq] at hA3
  replace he := he.trans hM3
  refine ⟨⟨he, Keeps.mem⟩, ?_⟩
  refine ze 7 rfl rfl <| e_buildSlice rfl (by decide) <| fun b4 => ⟨⟨he, Keeps.mem⟩, ?_⟩
  refine .pub b4 iI <| fun M4 hM4 hb4 => ?_
  replace he := he.trans hM4
  refine .to (E ++ ((b3, .cells #[.slice A1 k c1] 44 (0, 0)) :: (b2, .cells #[.slice NA nl nc] 22 (0, 0)) :: (b1, .cells (List.toArray t.cells) 105 (0, 0)) :: L)) iI <| zt 8 rfl rfl <| e_append (by decide) rfl rfl hE (.row (Row.whole (s := 1) hb4 rfl (by omega))) rfl (by omega) (by omega) <| fun A5 c5 E5 hE5 => zt 9 rfl rfl <| e_sT rfl rfl <| zz <| .block_normal <| .then_normal ?_
  refine .s6 3 4 7 14 15 16 rfl rfl rfl rfl rfl rfl <| x_region <| tl_y rfl (y_addI rfl rfl (by omega)) ?_
  rw [show ((q.toNat : Nat) : Int) + 1 = ((k + 1 : Nat) : Int) by rw [hq]; omega]
  refine mvI rfl <| .to ((b3, .cells #[.slice A5 (k + 1) c5] 44 (0, 0)) :: (E5 ++ ((b2, .cells #[.slice NA nl nc] 22 (0, 0)) :: (b1, .cells (List.toArray t.cells) 105 (0, 0)) :: L))) iI <| tl_nil <| .loop_next (m' := kl - (k + 1)) (by omega) (F' := [(3, _), (4, _), (7, _), (14, _), (15, _), (16, _)]) (cs6 rfl rfl rfl rfl rfl rfl) ?_
  exact ⟨k + 1, A5, c5, E5, _, rfl, by omega, hd.trans he, hE5, by
   rw [leavesB_succ]
   exact (hB.mono he).snoc (hA3.mono hM4), rfl, rfl, rfl⟩
 obtain rfl : k = kl := by omega
 have hkk2 : keys.length = k := by omega
 refine .to (E ++ ((b3, .cells #[.slice A1 k c1] 44 (0, 0)) :: (b2, .cells #[.slice NA nl nc] 22 (0, 0)) :: (b1, .cells (List.toArray t.cells) 105 (0, 0)) :: L)) iI <| .pubRow hE <| fun M2 hM2 hrow => ?_
 replace hd := hd.trans hM2
 replace hB : BRows M2 vs (lvl t name keys 0) := by rw [lvl, hkk2]; exact hB.mono hM2
 refine x_exit <| .then_exit <| .loop_exit <| .block_exit <| .then_normal <| .s3 3 4 7 rfl rfl rfl <| zr <| tLd rfl rfl <| tl_e rfl <| e_buildSlice rfl (by decide) <| fun b5 => asS rfl <| .to ((b3, .cells #[.slice A1 k c1] 44 (0, 0)) :: (b5, .cells #[.slice A1 k c1] 44 (0, 0)) :: (b2, .cells #[.slice NA nl nc] 22 (0, 0)) :: (b1, .cells (List.toArray t.cells) 105 (0, 0)) :: L) iI <| zq <| x_seq <| x_block ?_
 refine x_loop (I := fun m' F D M1 L1 => ∃ (h : Nat) (rs : List Nat) (A1 : Option Addr) (n1 c1 : Nat) (vs : List Value) (OA : Option Addr) (oc : Nat) (OE : Own) (ws : List Value), m' = H - h ∧ h ≤ H ∧ Le M M1 ∧ n1 = pw2 (H - h) ∧ Row M1 1 A1 n1 c1 vs ∧ BRows M1 vs (lvl t name keys h) ∧ OwnRow 44 1 OA (h + 1) oc ws OE ∧ RowsAt M1 ws (lvl t name keys) ∧ D = rs.map Eng.mark ∧ L1 = (b3, .cells #[.slice A1 n1 c1] 44 (0, 0)) :: (OE ++ (marksB rs ++ ((b2, .cells #[.slice NA nl nc] 22 (0, 0)) :: (b1, .cells (List.toArray t.cells) 105 (0, 0)) :: L))) ∧ F = [(3, .pointer (some ⟨b1, 0, none⟩)), (4, .pointer (some ⟨b2, 0, none⟩)), (7, .pointer (some ⟨b3, 0, none⟩)), (10, .slice OA (h + 1) oc)]) (H) (F0 := [(3, _), (4, _), (7, _), (10, _)]) ?_ (cs4 rfl rfl rfl rfl) ?_
 ·
  exact ⟨0, [], A1, k, c1, vs, _, _, _, _, rfl, by omega, hd, hkl, hrow, hB, OwnRow.made (n := 1) rfl (by omega), RowsAt.snoc (ws := []) (fun i hi => by simp at hi) hrow hB, rfl, rfl, rfl⟩
 rintro m _ _ M1 L1 ⟨h, rs, A1, n1, c1, vs, OA, oc, OE, ws, rfl, hh, hd, hn1, hrow, hB, hOE, hW, rfl, rfl, rfl⟩
 refine zr2 <| tLd rfl rfl <| tLen rfl <| tl_y rfl (y_gtr rfl rfl) <| zq <| x_cond rfl (fun hc2 => ?_) (fun hc2 => ?_)
 ·
  have hhH : h < H := by
   rcases Nat.lt_or_ge h H with hlt | hge
   ·
    exact hlt
   obtain rfl : h = H := by omega
   rw [Nat.sub_self, show pw2 0 = 1 from rfl] at hn1
   omega
  have hp2 := pw2_25 (h := H - h) (by omega)
  have hn12 : n1 / 2 = pw2 (H - (h + 1)) := by rw [hn1]; exact (pw2_half hhH).1
  have hlen1 : (lvl t name keys h).length = n1 := by rw [lvl_len t name keys (H := H) (by omega) h (by omega), hn1]
  refine x_skip <| .then_normal <| x_block <| zr <| tl_e rfl <| e_alloc <| fun b6 => zq <| zr2 <| tLd rfl rfl <| zca rfl pairs_spec ?_
  rintro _ _ _ _ ⟨rfl, x0, rfl, rfl⟩
  refine zq <| .s6 3 4 7 10 11 37 rfl rfl rfl rfl rfl rfl <| x_block <| x_rangeN rfl rfl <| fun l r0 fn tm lps las lbd hps has hbd htm => ?_
  obtain ⟨xs, hxs⟩ : ∃ xs : LoopState → Option Code → Option Addr → Nat → Nat → Own → Own, ∀ st pd A k c E, xs st pd A k c E = lrec l st pd fn tm lps las lbd r0 :: (r0, .deferred (some [])) :: (b6, .cells #[.slice A k c] 44 (0, 0)) :: (E ++ ((b3, .cells #[.slice A1 n1 c1] 44 (0, 0)) :: (OE ++ (marksB rs ++ ((b2, .cells #[.slice NA nl nc] 22 (0, 0)) :: (b1, .cells (List.toArray t.cells) 105 (0, 0)) :: L))))) := ⟨_, fun _ _ _ _ _ _ => rfl⟩
  refine Con.postD (Con.to ((x0, .cells #[.slice A1 n1 c1] 44 (0, 0)) :: xs .ready none none 0 0 []) (by rw [hxs, List.nil_append]; infer_instance) (pairs1_spec hrow hB (by omega) (Inv := fun k M2 X2 => ∃ (A6 : Option Addr) (c6 : Nat) (E6 : Own) (vs6 : List Value), Le M1 M2 ∧ OwnRow 22 1 A6 k c6 vs6 E6 ∧ BRows M2 vs6 (nextB t name (lvl t name keys h) k) ∧ X2 = xs .ready none A6 k c6 E6) (Dn := fun _ _ => False) ?_ ⟨none, 0, [], [], Le.refl _, .nil, .nil, rfl⟩)) ?_
  ·
   rintro k M2 X2 A3 n3 c3 A4 n4 c4 hk2 hb3 hb4 hM2 ⟨A6, c6, E6, vs6, hM12, hE6, hB6, rfl⟩
   rw [hxs]
   have hs3 := hb3.size
   have hs4 := hb4.size
   have hl3 := (lvl_short t name keys h).get (2 * k)
   have hl4 := (lvl_short t name keys h).get (2 * k + 1)
   obtain ⟨q, hq⟩ : ∃ q : UInt32, q.toNat = n1 / 2 + k := ⟨UInt32.ofNat (n1 / 2 + k), by rw [UInt32.toNat_ofNat', Nat.mod_eq_of_lt (by omega)]⟩
   have hd2 := hd.trans hM2
   subst hps
   subst has
   subst hbd
   refine ycon_body htm rfl (by kernel_rfl) <| fun R1 => ?_
   simp only [List.cons_append, List.append_assoc]
   refine zr <| asI rfl <| zq <| .s6 3 4 7 11 12 39 rfl rfl rfl rfl rfl rfl <| x_region <| tl_e rfl <| e_alloc <| fun b7 => tl_e rfl <| e_sT rfl rfl <| .bring l iI <| tl_nil <| .asg (by kernel_rfl) <| x_block ?_
   have he : Le M2 M2 := Le.refl _
   refine x_draw 15 hmix rfl <| pLd 0 rfl rfl rfl <| zy 1 rfl rfl (y_lg rfl rfl) <| pLd 2 rfl rfl rfl <| pmI 6 rfl rfl <| zp 9 rfl rfl (y_indexArrK 0 rfl rfl (by omega)) <| pLd 10 rfl rfl rfl <| zp 11 rfl rfl (y_indexArrK 1 rfl rfl (by omega)) <| pLd 12 rfl rfl rfl <| zy1 3 rfl rfl (y_ld rfl rfl) ?_
   refine zp 4 rfl rfl (y_len rfl) <| zp 5 rfl rfl (y_quoI rfl rfl (by omega)) ?_
   rw [show ((n1 : Nat) : Int) / 2 = ((n1 / 2 : Nat) : Int) by omega]
   refine zp 7 rfl rfl (y_addI rfl rfl (by omega)) ?_
   rw [show ((n1 / 2 : Nat) : Int) + ((k : Nat) : Int) = ((q.toNat : Nat) : Int) by rw [hq]; omega]
   refine zp 8 rfl rfl (y_convN32 rfl (by omega)) ?_
   refine ze 13 rfl rfl <| e_call' rfl (inner_spec (hg.mono hd2) t (hname.mono hd2) q (hb3.mono hM2) (by omega) (hb4.mono hM2) (by omega)) ?_
   rintro _ M4 _ hM4 ⟨rfl, A7, m7, c7, rfl, hA7⟩
   rw [hq] at hA7
   replace he := he.trans hM4
   refine ⟨⟨he, Keeps.mem⟩, ?_⟩
   refine ze 14 rfl rfl <| e_buildSlice rfl (by decide) <| fun b8 => ⟨⟨he, Keeps.mem⟩, ?_⟩
   refine .pub b8 iI <| fun M5 hM5 hb8 => ?_
   replace he := he.trans hM5
   refine .bringE E6 iI <| zt 15 rfl rfl <| e_append (by decide) rfl rfl hE6 (.row (Row.whole (s := 1) hb8 rfl (by omega))) rfl (by omega) (by omega) <| fun A9 c9 E9 hE9 => zt 16 rfl rfl <| e_sT rfl rfl <| to_nil (by kernel_rfl) (.block_normal (.on ((r0, .deferred (some [])) :: (b6, .cells #[.slice A9 (k + 1) c9] 44 (0, 0)) :: (E9 ++ ((b3, .cells #[.slice A1 n1 c1] 44 (0, 0)) :: (OE ++ (marksB rs ++ ((b2, .cells #[.slice NA nl nc] 22 (0, 0)) :: (b1, .cells (List.toArray t.cells) 105 (0, 0)) :: (L ++ R1))))))) iI iI
    (X := (r0, .deferred (some [])) :: (b6, .cells #[.slice A9 (k + 1) c9] 44 (0, 0)) :: (E9 ++ ((b3, .cells #[.slice A1 n1 c1] 44 (0, 0)) :: (OE ++ (marksB rs ++ ((b2, .cells #[.slice NA nl nc] 22 (0, 0)) :: (b1, .cells (List.toArray t.cells) 105 (0, 0)) :: L)))))) (by simp) he ⟨A9, c9, E9, _, hM12.trans he, hE9, by
     rw [nextB_succ, hlen1]
     exact (hB6.mono he).snoc (hA7.mono hM5), (hxs _ _ _ _ _ _).symm⟩))
  rintro v M3 L3 hM3 ⟨X', rfl, hX⟩
  rcases hX with ⟨A6, c6, E6, vs6, hM13, hE6, hB6, rfl⟩ | hX
  ·
   refine ⟨lrec l .ready none fn tm lps las lbd r0 :: (r0, .deferred (some [])) :: (b6, .cells #[.slice A6 (n1 / 2) c6] 44 (0, 0)) :: (E6 ++ ((b3, .cells #[.slice A1 n1 c1] 44 (0, 0)) :: (OE ++ (marksB rs ++ ((b2, .cells #[.slice NA nl nc] 22 (0, 0)) :: (b1, .cells (List.toArray t.cells) 105 (0, 0)) :: L))))), by rw [hxs]; infer_instance, .ready, none, _, by simp, rfl, ?_⟩
   refine .dropTo (E6 ++ ((r0, .deferred (some [])) :: (b6, .cells #[.slice A6 (n1 / 2) c6] 44 (0, 0)) :: (b3, .cells #[.slice A1 n1 c1] 44 (0, 0)) :: (OE ++ (marksB rs ++ ((b2, .cells #[.slice NA nl nc] 22 (0, 0)) :: (b1, .cells (List.toArray t.cells) 105 (0, 0)) :: L))))) iI <| .pubRow hE6 <| fun M4 hM4 hrow6 => ?_
   have hd4 := hd.trans (hM13.trans hM4)
   replace hB6 : BRows M4 vs6 (lvl t name keys (h + 1)) := by rw [lvl, hlen1]; exact hB6.mono hM4
   have hwl : ws.length = h + 1 := by have := hOE.len; omega
   have he : Le M4 M4 := Le.refl _
   refine .block_normal <| .then_normal <| .s5 3 4 7 10 11 rfl rfl rfl rfl rfl <| x_draw0 3 ([(b6, .cells #[.slice A6 (n1 / 2) c6] 44 (0, 0))]) Keeps.mem hmix rfl <| pmS 0 rfl rfl <| pLd 1 rfl rfl rfl <| to_two 2 4 (by kernel_rfl) ?_ ?_
   ·
    refine two_e 2 rfl rfl <| e_buildSlice rfl (by decide) <| fun b7 => ⟨⟨he, Keeps.mem⟩, ?_⟩
    refine .pub b7 iI <| fun M5 hM5 hb7 => ?_
    replace he := he.trans hM5
    refine .to (OE ++ ((b6, .cells #[.slice A6 (n1 / 2) c6] 44 (0, 0)) :: (b3, .cells #[.slice A1 n1 c1] 44 (0, 0)) :: (r0, .deferred (some [])) :: (marksB rs ++ ((b2, .cells #[.slice NA nl nc] 22 (0, 0)) :: (b1, .cells (List.toArray t.cells) 105 (0, 0)) :: L)))) iI <| to_two 3 4 (by kernel_rfl) ?_ ?_
    ·
     refine two_e 3 rfl rfl <| e_append (by decide) rfl rfl hOE (.row (Row.whole (s := 1) hb7 rfl (by omega))) rfl (by omega) (by omega) <| fun A9 c9 E9 hE9 => ⟨⟨he, Keeps.mem⟩, ?_⟩
     refine paS 5 rfl rfl <| zy1 4 rfl rfl (y_ld rfl rfl) <| zt 6 rfl rfl <| e_sT rfl rfl <| .dropTo ((b3, .cells #[.slice A6 (n1 / 2) c6] 44 (0, 0)) :: (E9 ++ ((r0, .deferred (some [])) :: (marksB rs ++ ((b2, .cells #[.slice NA nl nc] 22 (0, 0)) :: (b1, .cells (List.toArray t.cells) 105 (0, 0)) :: L))))) iI <| zz <| .block_normal <| .loop_next (m' := H - (h + 1)) (by omega) (F' := [(3, _), (4, _), (7, _), (10, _)]) (cs4 rfl rfl rfl rfl) ?_
     exact ⟨h + 1, r0 :: rs, A6, n1 / 2, c6, vs6, A9, c9, E9, _, rfl, by omega, hd4.trans he, hn12, hrow6.mono he, hB6.mono he, hE9, (hW.mono (hM13.trans (hM4.trans he))).snoc (hrow6.mono he) (by rw [hwl]; exact hB6.mono he), rfl, rfl, rfl⟩
    refine two_e 4 rfl rfl <| tr_y (y_ld rfl rfl) <| ⟨⟨he, Keeps.mem⟩, ?_⟩
    refine zt 3 rfl rfl <| e_append (by decide) rfl rfl hOE (.row (Row.whole (s := 1) hb7 rfl (by omega))) rfl (by omega) (by omega) <| fun A9 c9 E9 hE9 => paS 5 rfl rfl <| zt 6 rfl rfl <| e_sT rfl rfl <| .dropTo ((b3, .cells #[.slice A6 (n1 / 2) c6] 44 (0, 0)) :: (E9 ++ ((r0, .deferred (some [])) :: (marksB rs ++ ((b2, .cells #[.slice NA nl nc] 22 (0, 0)) :: (b1, .cells (List.toArray t.cells) 105 (0, 0)) :: L))))) iI ?_
    refine zz <| .block_normal <| .loop_next (m' := H - (h + 1)) (by omega) (F' := [(3, _), (4, _), (7, _), (10, _)]) (cs4 rfl rfl rfl rfl) ?_
    exact ⟨h + 1, r0 :: rs, A6, n1 / 2, c6, vs6, A9, c9, E9, _, rfl, by omega, hd4.trans he, hn12, hrow6.mono he, hB6.mono he, hE9, (hW.mono (hM13.trans (hM4.trans he))).snoc (hrow6.mono he) (by rw [hwl]; exact hB6.mono he), rfl, rfl, rfl⟩
   refine two_e 4 rfl rfl <| tr_y (y_ld rfl rfl) <| ⟨⟨he, Keeps.mem⟩, ?_⟩
   refine ze 2 rfl rfl <| e_buildSlice rfl (by decide) <| fun b7 => ⟨⟨he, Keeps.mem⟩, ?_⟩
   refine .pub b7 iI <| fun M5 hM5 hb7 => ?_
   replace he := he.trans hM5
   refine .to (OE ++ ((b6, .cells #[.slice A6 (n1 / 2) c6] 44 (0, 0)) :: (b3, .cells #[.slice A1 n1 c1] 44 (0, 0)) :: (r0, .deferred (some [])) :: (marksB rs ++ ((b2, .cells #[.slice NA nl nc] 22 (0, 0)) :: (b1, .cells (List.toArray t.cells) 105 (0, 0)) :: L)))) iI <| zt 3 rfl rfl <| e_append (by decide) rfl rfl hOE (.row (Row.whole (s := 1) hb7 rfl (by omega))) rfl (by omega) (by omega) <| fun A9 c9 E9 hE9 => ?_
   refine paS 5 rfl rfl <| zt 6 rfl rfl <| e_sT rfl rfl <| .dropTo ((b3, .cells #[.slice A6 (n1 / 2) c6] 44 (0, 0)) :: (E9 ++ ((r0, .deferred (some [])) :: (marksB rs ++ ((b2, .cells #[.slice NA nl nc] 22 (0, 0)) :: (b1, .cells (List.toArray t.cells) 105 (0, 0)) :: L))))) iI <| zz <| .block_normal <| .loop_next (m' := H - (h + 1)) (by omega) (F' := [(3, _), (4, _), (7, _), (10, _)]) (cs4 rfl rfl rfl rfl) ?_
   exact ⟨h + 1, r0 :: rs, A6, n1 / 2, c6, vs6, A9, c9, E9, _, rfl, by omega, hd4.trans he, hn12, hrow6.mono he, hB6.mono he, hE9, (hW.mono (hM13.trans (hM4.trans he))).snoc (hrow6.mono he) (by rw [hwl]; exact hB6.mono he), rfl, rfl, rfl⟩
  exact hX.elim
 obtain rfl : h = H := by
  rcases Nat.lt_or_ge h H with hlt | hge
  ·
   have h1 := (pw2_half hlt).2
   have h2 := pw2_pos (H - (h + 1))
   omega
  omega
 refine .to (OE ++ ((b3, .cells #[.slice A1 n1 c1] 44 (0, 0)) :: (marksB rs ++ ((b2, .cells #[.slice NA nl nc] 22 (0, 0)) :: (b1, .cells (List.toArray t.cells) 105 (0, 0)) :: L)))) iI <| .pubRow hOE <| fun M3 hM3 hOr => x_exit <| .then_exit <| .loop_exit <| .block_exit <| .then_normal <| .s1 10 rfl <| zr <| mvS rfl <| asS rfl <| zq <| x_ret (.retMs (rs := rs) (L' := (b3, .cells #[.slice A1 n1 c1] 44 (0, 0)) :: (b2, .cells #[.slice NA nl nc] 22 (0, 0)) :: (b1, .cells (List.toArray t.cells) 105 (0, 0)) :: L) (L1 := L) iI (rv1 rfl (rc_tmp (by rfl))) iI (hd.trans hM3) ⟨rfl, OA, oc, ws, rfl, hOr, hW.mono hM3⟩)
end
def rootB (t : TreeV) (name : List UInt8) (keys : List (List UInt8)) : List UInt8 := (lvl t name keys t.h.toNat).getD 0 []
def sib (x : Nat) : Nat := if x % 2 = 1 then x - 1 else x + 1
theorem xor_one (x : Nat) : x ^^^ 1 = sib x := by
 have h1 : (x ^^^ 1) / 2 = x / 2 := by rw [Nat.xor_div_two]; simp
 have h2 : (x ^^^ 1) % 2 = (x + 1) % 2 := by
  have h3 := @Nat.xor_mod_two_eq_one x 1
  have h4 : (x ^^^ 1) % 2 = 1 ↔ x % 2 = 0 := by rw [h3]; omega
  by_cases hx : x % 2 = 0
  ·
   rw [h4.2 hx]; omega
  have : ¬ (x ^^^ 1) % 2 = 1 := fun h => hx (h4.1 h)
  omega
 unfold sib
 split <;> omega
def wayB (t : TreeV) (name : List UInt8) (keys : List (List UInt8)) (q k : Nat) : List (List UInt8) := (List.range k).map fun h => (lvl t name keys h).getD (sib (q / pw2 h)) []
theorem wayB_len (t : TreeV) (name : List UInt8) (keys : List (List UInt8)) (q k : Nat) : (wayB t name keys q k).length = k := by simp [wayB]
theorem wayB_succ (t : TreeV) (name : List UInt8) (keys : List (List UInt8)) (q k : Nat) : wayB t name keys q (k + 1) = wayB t name keys q k ++ [(lvl t name keys k).getD (sib (q / pw2 k)) []] := by
 rw [wayB, List.range_succ, List.map_append]; rfl
theorem pw2_mul {a b : Nat} (h : b ≤ a) : pw2 a = pw2 b * pw2 (a - b) := by
 rw [pw2, pw2, pw2, ← Nat.pow_add]; congr 1; omega
theorem div_lt {H h q : Nat} (hh : h ≤ H) (hq : q < pw2 H) : q / pw2 h < pw2 (H - h) := by
 rw [Nat.div_lt_iff_lt_mul (pw2_pos h), Nat.mul_comm, ← pw2_mul hh]; exact hq
theorem sib_lt {H h q : Nat} (hh : h < H) (hq : q < pw2 H) : sib (q / pw2 h) < pw2 (H - h) := by
 have h1 := div_lt (Nat.le_of_lt hh) hq
 have h2 := (pw2_half hh).2
 generalize q / pw2 h = x at h1
 unfold sib
 split <;> omega
section
variable {G : World} {M : Mem} {L : Own}
theorem Root_spec (hg : MrG M) (t : TreeV) {NA : Option Addr} {nl nc : Nat} {name : List UInt8} (hname : Bytes M NA nl nc name) {KA : Option Addr} {kl kc : Nat} {kvs : List Value} {keys : List (List UInt8)} (hk : Row M 1 KA kl kc kvs) (hkb : BRows M kvs keys) (hks : ∀ b ∈ keys, b.length ≤ 1000000000000) :
  Con Tryz.prog 152 #[.agg (List.toArray t.cells), .slice NA nl nc, .slice KA kl kc] G M L (fun v M' L' => L = L' ∧ ∃ A' m' c', v = .slice A' m' c' ∧ Bytes M' A' m' c' (if okM t nl kl then rootB t name keys else [])) noPanic := by
 have hmx := hk.max
 have hle := hk.le
 have hvl := hkb.len
 have hkn : kvs.length = kl := by have := hk.len; omega
 refine zfn Tryz.func152 rfl 22 rfl <| zr <| tl_e rfl <| e_box rfl <| fun b1 => as0 rfl <| zq <| zr2 <| tLg rfl rfl <| mvS rfl <| mvS rfl <| zca rfl (May_spec hg t (by omega)) ?_
 rintro _ M1 _ hM1 ⟨rfl, rfl⟩
 refine tl_y rfl (y_notd rfl) <| zq <| .s4 1 2 3 11 rfl rfl rfl rfl <| x_cond rfl (fun hc1 => ?_) (fun hc1 => ?_)
 ·
  refine zr <| as0 rfl <| zq <| .s1 6 rfl <| x_ret (.then_ret (.dropTo L iI (ret1 rfl rfl hM1 ⟨rfl, _, _, _, rfl, by rw [if_neg hc1]; exact Row.nil _ _⟩)))
 have hok : okM t nl kl := Classical.not_not.1 hc1
 obtain ⟨hokc, H, hH, hH1, hH25, hlv⟩ := okS_facts hok.1
 have hkl : kl = pw2 H := by rw [← hlv]; exact hok.2.2
 have hH10 := hok.2.1
 have hpw := pw2_25 hH25
 refine x_skip <| .then_normal <| x_seq ?_
 have hd : Le M1 M1 := Le.refl _
 refine x_draw 11 hmix rfl <| zy 0 rfl rfl (y_lg rfl rfl) <| pmS 1 rfl rfl <| pmS 2 rfl rfl <| pFa 4 rfl rfl <| pLd 5 rfl rfl rfl <| ze 3 rfl rfl <| e_call' rfl (rows_spec (hg.mono hM1) t hH (by omega) (hname.mono hM1) (hk.mono hM1) (hkb.mono hM1) hkl hks) ?_
 rintro _ M2 _ hM2 ⟨rfl, A2, c2, ws, rfl, hrow, hW⟩
 refine ⟨⟨hM2, Keeps.mem⟩, ?_⟩
 have hwl : ws.length = H + 1 := by have := hrow.len; omega
 obtain ⟨g, o, rfl, hcell⟩ := hrow.addr (by omega)
 obtain ⟨A3, n3, c3, vs3, hv3, hr3, hb3⟩ := hW H (by omega)
 have hl3 := lvl_len t name keys (H := H) (by omega) H (Nat.le_refl _)
 rw [Nat.sub_self, show pw2 0 = 1 from rfl] at hl3
 have hn3 : n3 = 1 := by have := hr3.len; have := hb3.len; omega
 subst hn3
 obtain ⟨g3, o3, rfl, hcell3⟩ := hr3.addr (by omega)
 obtain ⟨A4, n4, c4, hv4, hb4⟩ := hb3.get 0 (by omega)
 rw [hH]
 refine zp 6 rfl rfl (y_indexAddr rfl rfl (by omega)) <| zy1 7 rfl rfl (y_load rfl rfl (.at_ (hcell _ H _ hv3) (by omega))) <| zp 8 rfl rfl (y_indexAddr rfl rfl (by omega)) <| zy1 9 rfl rfl (y_load rfl rfl (.at_ (hcell3 _ 0 _ hv4) (by omega))) <| paS 10 rfl rfl <| zz <| .then_normal <| .s1 6 rfl <| x_ret (.dropTo L iI (ret1 rfl rfl (hM1.trans hM2) ⟨rfl, _, _, _, rfl, by rw [if_pos hok, rootB]; simpa only [hH, Int.toNat_natCast] using hb4⟩))
theorem Way_spec (hg : MrG M) (t : TreeV) {NA : Option Addr} {nl nc : Nat} {name : List UInt8} (hname : Bytes M NA nl nc name) {KA : Option Addr} {kl kc : Nat} {kvs : List Value} {keys : List (List UInt8)} (hk : Row M 1 KA kl kc kvs) (hkb : BRows M kvs keys) (hks : ∀ b ∈ keys, b.length ≤ 1000000000000) (q : UInt32) :
  Con Tryz.prog 156 #[.agg (List.toArray t.cells), .slice NA nl nc, .slice KA kl kc, .int .u32 (q.toNat : Int)] G M L (fun v M' L' => L = L' ∧ ∃ A' m' c' vs', v = .slice A' m' c' ∧ Row M' 1 A' m' c' vs' ∧ BRows M' vs' (if okM t nl kl ∧ q.toNat < kl then wayB t name keys q.toNat t.h.toNat else [])) noPanic := by
 have hmx := hk.max
 have hle := hk.le
 have hvl := hkb.len
 have hkn : kvs.length = kl := by have := hk.len; omega
 refine zfn Tryz.func156 rfl 49 rfl <| zr <| tl_e rfl <| e_box rfl <| fun b1 => as0 rfl <| zq <| zr2 <| tLg rfl rfl <| mvS rfl <| mvS rfl <| zca rfl (May_spec hg t (by omega)) ?_
 rintro _ M1 _ hM1 ⟨rfl, rfl⟩
 refine tl_y rfl (y_notd rfl) <| mvB rfl <| tl_cases (s := 17) rfl (fun hk1 => ?_) (fun hk1 => ?_)
 ·
  refine sk5 rfl rfl rfl rfl rfl <| tPt rfl rfl <| zq <| .s5 1 2 3 4 23 rfl rfl rfl rfl rfl <| x_true rfl rfl <| zr <| as0 rfl <| zq <| .s1 8 rfl <| x_ret (.then_ret (.dropTo L iI (ret1 rfl rfl hM1 ⟨rfl, _, _, _, _, rfl, Row.nil _ _, by rw [if_neg (fun h => hk1 h.1)]; exact .nil⟩)))
 have hok : okM t nl kl := Classical.not_not.1 hk1
 obtain ⟨hokc, H, hH, hH1, hH25, hlv⟩ := okS_facts hok.1
 have hkl : kl = pw2 H := by rw [← hlv]; exact hok.2.2
 have hH10 := hok.2.1
 have hpw := pw2_25 hH25
 have hqq := q.toNat_lt
 refine mvI rfl <| tl_y rfl (y_convN64 rfl (by omega)) <| tLg rfl rfl ?_
 refine zca rfl (Leaves_spec t) ?_
 rintro _ _ _ _ ⟨rfl, rfl, rfl⟩
 rw [hlv]
 refine tl_y rfl (y_geq rfl rfl) <| tPf rfl rfl <| zq <| .s5 1 2 3 4 23 rfl rfl rfl rfl rfl <| x_cond rfl (fun hc1 => ?_) (fun hc1 => ?_)
 ·
  refine zr <| as0 rfl <| zq <| .s1 8 rfl <| x_ret (.then_ret (.dropTo L iI (ret1 rfl rfl hM1 ⟨rfl, _, _, _, _, rfl, Row.nil _ _, by rw [if_neg (fun h => by have := h.2; omega)]; exact .nil⟩)))
 have hq : q.toNat < pw2 H := by omega
 refine x_skip <| .then_normal <| zr <| as0 rfl <| zq <| x_seq <| x_seq <| x_draw 9 hmix rfl <| zy 0 rfl rfl (y_lg rfl rfl) <| pmS 1 rfl rfl <| pmS 2 rfl rfl <| pFa 4 rfl rfl ?_
 refine pLd 5 rfl rfl rfl <| zp 8 rfl rfl (y_move rfl) <| ze 3 rfl rfl <| e_call' rfl (rows_spec (hg.mono hM1) t hH (by omega) (hname.mono hM1) (hk.mono hM1) (hkb.mono hM1) hkl hks) ?_
 rintro _ M2 _ hM2 ⟨rfl, A2, c2, ws, rfl, hrow, hW⟩
 refine ⟨⟨hM2, Keeps.mem⟩, ?_⟩
 have hwl : ws.length = H + 1 := by have := hrow.len; omega
 obtain ⟨g, o, rfl, hcell⟩ := hrow.addr (by omega)
 have hrle := hrow.le
 have hd := hM1.trans hM2
 rw [hH]
 refine zp 6 rfl rfl (y_sliceH rfl rfl (by omega) (by omega)) ?_
 rw [Int.toNat_natCast]
 refine zp 7 rfl rfl (y_len rfl) <| zz <| .then_normal <| .s5 3 9 30 31 32 rfl rfl rfl rfl rfl <| x_block ?_
 refine x_loop (I := fun m' F D M3 L3 => ∃ (k : Nat) (A1 : Option Addr) (c1 : Nat) (E : Own) (vs : List Value), m' = H - k ∧ k ≤ H ∧ Le M2 M3 ∧ OwnRow 22 1 A1 k c1 vs E ∧ BRows M3 vs (wayB t name keys q.toNat k) ∧ D = [] ∧ L3 = E ++ ((b1, .cells (List.toArray t.cells) 105 (0, 0)) :: L) ∧ F = [(3, .int .u32 (q.toNat : Int)), (9, .slice A1 k c1), (30, .slice (sl (some ⟨g, o, none⟩) 0 c2 1) H c2), (31, .int .i64 H), (32, .int .i64 k)]) (H) (F0 := [(3, _), (9, _), (30, _), (31, _), (32, _)]) ?_ (cs5 rfl rfl rfl rfl rfl) ?_
 ·
  exact ⟨0, none, 0, [], [], rfl, by omega, Le.refl _, .nil, .nil, rfl, rfl, rfl⟩
 rintro m _ _ M3 L3 ⟨k, A1, c1, E, vs, rfl, hkk, he, hE, hB, rfl, rfl, rfl⟩
 refine zr <| tl_y rfl (y_lss rfl rfl) <| zq <| x_seq <| x_cond rfl (fun hc2 => ?_) (fun hc2 => ?_)
 ·
  have hkH : k < H := by omega
  obtain ⟨g', o', hgo, hcell'⟩ := (hrow.mono he).addr (by omega)
  obtain ⟨rfl, rfl⟩ : g = g' ∧ o = o' := by simpa using hgo
  obtain ⟨A4, n4, c4, vs4, hv4, hr4, hb4⟩ := (hW.mono he) k (by omega)
  have hl4 := lvl_len t name keys (H := H) (by omega) k (by omega)
  have hvl4 := hb4.len
  have hrl4 := hr4.len
  have hs4 := sib_lt hkH hq
  have hp4 := pw2_25 (h := H - k) (by omega)
  obtain ⟨g4, o4, rfl, hcell4⟩ := hr4.addr (by omega)
  obtain ⟨A5, n5, c5, hv5, hb5⟩ := hb4.get (sib (q.toNat / pw2 k)) (by omega)
  have hsl : sl (some ⟨g, o, none⟩) 0 c2 1 = some ⟨g, o, none⟩ := by
   unfold sl
   split
   ·
    rfl
   simp [Addr.add]
  rw [hsl]
  have hxv : (shr32 q k ^^^ 1).toNat = sib (q.toNat / pw2 k) := by
   have hle := Nat.div_le_self q.toNat (pw2 k)
   rw [UInt32.toNat_xor, ← xor_one]
   congr 1
   rw [shr32, UInt32.toNat_ofNat', show 2 ^ k = pw2 k from rfl, Nat.mod_eq_of_lt (by omega)]
  refine x_skip <| .then_normal <| x_seq <| x_block <| zr <| mvI rfl <| tl_y rfl (y_indexAddr rfl rfl (by omega)) <| tl_y rfl (y_load rfl rfl (.at_ (hcell' _ k _ hv4) (by omega))) <| asI rfl <| asS rfl <| zq <| .s7 3 9 10 11 30 31 32 rfl rfl rfl rfl rfl rfl rfl <| x_region <| mvS rfl <| mvS rfl <| mvI rfl <| mvI rfl <| tl_y rfl (y_shr32 rfl rfl) <| tl_y rfl (y_xor32 (b := 1) rfl rfl) ?_
  rw [show u32v (shr32 q k ^^^ 1) = .int .u32 ((sib (q.toNat / pw2 k) : Nat) : Int) from congrArg (fun (x : Nat) => Value.int .u32 (x : Int)) hxv]
  refine tl_y rfl (y_indexAddr rfl rfl (by omega)) <| tl_y rfl (y_load rfl rfl (.at_ (hcell4 _ _ _ hv5) (by omega))) <| tl_e rfl <| e_buildSlice rfl (by decide) <| fun b2 => .pub b2 iI <| fun M6 hM6 hb6 => tl_e rfl <| e_append (by decide) rfl rfl hE (.row (Row.whole (s := 1) hb6 rfl (by omega))) rfl (by omega) (by omega) <| fun A7 c7 E7 hE7 => asS rfl <| tl_nil <| .block_normal <| .then_normal <| .s5 3 9 30 31 32 rfl rfl rfl rfl rfl <| x_region <| tl_y rfl (y_addI rfl rfl (by omega)) <| mvI rfl <| tl_nil <| .loop_next (m' := H - (k + 1)) (by omega) (F' := [(3, _), (9, _), (30, _), (31, _), (32, _)]) (cs5 rfl rfl rfl rfl rfl) ?_
  exact ⟨k + 1, A7, c7, E7, _, rfl, by omega, he.trans hM6, hE7, by
   rw [wayB_succ]
   exact (hB.mono hM6).snoc (hb5.mono hM6), rfl, rfl, rfl⟩
 obtain rfl : k = H := by omega
 refine .pubRow hE <| fun M4 hM4 hrow4 => x_exit <| .then_exit <| .loop_exit <| .block_exit <| .then_normal <| .s1 9 rfl <| zr <| mvS rfl <| asS rfl <| zq <| x_ret (.dropTo L iI (ret1 rfl rfl (hd.trans (he.trans hM4)) ⟨rfl, _, _, _, _, rfl, hrow4, by rw [if_pos ⟨hok, by omega⟩]; simpa only [hH, Int.toNat_natCast] using hB.mono hM4⟩))
end
def clX (t : TreeV) (name : List UInt8) (way : List (List UInt8)) (p : Nat) (x : List UInt8) : Nat → List UInt8
 | 0 => x
 | k + 1 => innB t name (p / pw2 (k + 1)) (if p / pw2 k % 2 = 1 then way.getD k [] ++ clX t name way p x k else clX t name way p x k ++ way.getD k [])
theorem clX_le (t : TreeV) (name : List UInt8) (way : List (List UInt8)) (p : Nat) {x : List UInt8} (hx : x.length ≤ 32) : ∀ k, (clX t name way p x k).length ≤ 32
 | 0 => hx
 | k + 1 => innB_le _ _ _ _
def okW (t : TreeV) (nl q : Nat) (way : List (List UInt8)) : Prop := okS t nl ∧ q < leavesN t.h ∧ (way.length : Int) = t.h ∧ ∀ b ∈ way, (b.length : Int) = t.n
instance {t : TreeV} {nl q : Nat} {way : List (List UInt8)} : Decidable (okW t nl q way) := inferInstanceAs (Decidable (_ ∧ _))
def climbB (t : TreeV) (name : List UInt8) (q : Nat) (key : List UInt8) (way : List (List UInt8)) : List UInt8 :=
 if okW t name.length q way then clX t name way (pw2 t.h.toNat + q) (leafB t name q key) way.length else []
def climbE (t : TreeV) (nl q : Nat) (way : List (List UInt8)) : Int := if okW t nl q way then 0 else 1
def anyBad (n : Int) (way : List (List UInt8)) : Bool := way.any fun b => decide ((b.length : Int) ≠ n)
theorem anyBad_iff {n : Int} {way : List (List UInt8)} : anyBad n way = false ↔ ∀ b ∈ way, (b.length : Int) = n := by
 unfold anyBad
 rw [List.any_eq_false]
 simp
theorem div_pw2 (p k : Nat) : p / pw2 k / 2 = p / pw2 (k + 1) := by rw [Nat.div_div_eq_div_mul, pw2, pw2, Nat.pow_succ]
section
variable {G : World} {M : Mem} {L : Own}
theorem climb1_spec (t : TreeV) {b1 : Nat} [hb : Has L b1 (.cells (List.toArray t.cells) 105 (0, 0))] {A : Option Addr} {n c : Nat} :
  Con Tryz.prog 225 #[.slice A n c, .pointer (some ⟨b1, 0, none⟩)] G M L (fun v M' L' => M = M' ∧ L = L' ∧ v = .bool (decide ((n : Int) ≠ t.n))) noPanic := by
 refine zfn Tryz.func225 rfl 9 rfl <| zr <| as0 rfl <| zq <| zr <| mvS rfl <| tLen rfl <| tFa rfl <| tLd rfl rfl <| tl_y rfl (y_neq rfl rfl) <| asB rfl <| zq <| .s1 3 rfl <| x_ret (ret1 rfl rfl lR ⟨rfl, rfl, rfl⟩)
theorem indexFuncM_spec (t : TreeV) {b1 : Nat} [hb : Has L b1 (.cells (List.toArray t.cells) 105 (0, 0))] {A : Option Addr} {n c : Nat} {vs : List Value} {way : List (List UInt8)} (h : Row M 1 A n c vs) (hw : BRows M vs way) :
  Con Tryz.prog 259 #[.slice A n c, .func (.func 225) #[] #[.pointer (some ⟨b1, 0, none⟩)]] G M L (fun v M' L' => M = M' ∧ L = L' ∧ ∃ r : Int, v = .int .i64 r ∧ (0 ≤ r ↔ anyBad t.n way = true)) noPanic := by
 have hmx := h.max
 have hle := h.le
 have hvl := hw.len
 have hnl : vs.length = n := by have := h.len; omega
 refine zfn Tryz.func259 rfl 19 rfl <| zr <| as0 rfl <| zq <| zr2 <| mvS rfl <| tLen rfl <| mv0 rfl <| zq <| x_block ?_
 refine x_loop (I := fun m' F D M1 L1 => ∃ k : Nat, m' = n - k ∧ k ≤ n ∧ anyBad t.n (way.take k) = false ∧ D = [] ∧ M = M1 ∧ L = L1 ∧ F = [(0, .slice A n c), (1, .func (.func 225) #[] #[.pointer (some ⟨b1, 0, none⟩)]), (4, .int .i64 0), (7, .int .i64 n), (8, .int .i64 k)]) (n) (F0 := [(0, _), (1, _), (4, _), (7, _), (8, _)]) ?_ (cs5 rfl rfl rfl rfl rfl) ?_
 ·
  exact ⟨0, rfl, by omega, rfl, rfl, rfl, rfl, rfl⟩
 rintro m _ _ M1 L1 ⟨k, rfl, hk, hb0, rfl, rfl, rfl, rfl⟩
 refine zr <| tl_y rfl (y_lss rfl rfl) <| zq <| x_seq <| x_cond rfl (fun hc1 => ?_) (fun hc1 => ?_)
 ·
  have hkn : k < n := by omega
  obtain ⟨g, o, rfl, hca⟩ := h.addr (by omega)
  obtain ⟨A2, n2, c2, hv2, hb2⟩ := hw.get k (by omega)
  have hn2 := hb2.size
  refine x_skip <| .then_normal <| x_seq <| x_block <| zr <| mvI rfl <| asI rfl <| zq <| zr <| mvF rfl <| mvS rfl <| mvI rfl <| tl_y rfl (y_indexAddr rfl rfl (by omega)) <| tl_y rfl (y_load rfl rfl (.at_ (hca _ k _ hv2) (by omega))) ?_
  refine tl_e rfl <| e_callv rfl rfl (climb1_spec t) (fun _ _ _ _ h => h.elim) ?_
  rintro _ _ _ _ ⟨rfl, rfl, rfl⟩
  refine zq <| .s7 0 1 4 5 7 8 16 rfl rfl rfl rfl rfl rfl rfl <| x_cond rfl (fun hc2 => ?_) (fun hc2 => ?_)
  ·
   refine zr <| mvI rfl <| asI rfl <| zq <| x_ret (.block_ret (.then_ret (.loop_ret (.block_ret (.then_ret (ret1 rfl rfl lR ⟨rfl, rfl, _, rfl, iff_of_true (by omega) (by
    unfold anyBad
    rw [List.any_eq_true]
    exact ⟨_, getD_mem way k [] (by omega), decide_eq_true (by omega)⟩)⟩))))))
  refine x_skip <| .block_normal <| .then_normal <| x_region <| tl_y rfl (y_addI rfl rfl (by omega)) <| mvI rfl <| tl_nil <| .loop_next (m' := n - (k + 1)) (by omega) (F' := [(0, _), (1, _), (4, _), (7, _), (8, _)]) (cs5 rfl rfl rfl rfl rfl) ?_
  exact ⟨k + 1, rfl, by omega, by
   rw [take_snoc way k [] (by omega)]
   rw [anyBad_iff] at hb0 ⊢
   intro b hb
   rcases List.mem_append.1 hb with hb | hb
   ·
    exact hb0 b hb
   obtain rfl := List.mem_singleton.1 hb
   omega, rfl, rfl, rfl, rfl⟩
 refine x_exit <| .then_exit <| .loop_exit <| .block_exit <| .then_normal <| .s0 <| zr <| as0 rfl <| zq <| x_ret (ret1 rfl rfl lR ⟨rfl, rfl, _, rfl, iff_of_false (by omega) (by
  rw [List.take_of_length_le (by omega)] at hb0
  rw [hb0]; simp)⟩)
theorem Climb_spec (hg : MrG M) (t : TreeV) {NA : Option Addr} {nl nc : Nat} {name : List UInt8} (hname : Bytes M NA nl nc name) (q : UInt32) {KA : Option Addr} {kl kc : Nat} {key : List UInt8} (hkey : Bytes M KA kl kc key) (hkl : kl ≤ 1000000000000) {WA : Option Addr} {wl wc : Nat} {wvs : List Value} {way : List (List UInt8)} (h : Row M 1 WA wl wc wvs) (hw : BRows M wvs way) :
  Con Tryz.prog 173 #[.agg (List.toArray t.cells), .slice NA nl nc, .int .u32 (q.toNat : Int), .slice KA kl kc, .slice WA wl wc] G M L (fun v M' L' => L = L' ∧ ∃ A' m' c', v = .tuple #[.slice A' m' c', .int .i64 (climbE t nl q.toNat way)] ∧ Bytes M' A' m' c' (climbB t name q.toNat key way)) noPanic := by
 have hmx := h.max
 have hle := h.le
 have hvl := hw.len
 have hwn : wvs.length = wl := by have := h.len; omega
 have hnl := hname.size
 have hqq := q.toNat_lt
 have hcf : ∀ b1 : Nat, Con Tryz.prog 224 #[.slice WA wl wc, .func (.func 225) #[] #[.pointer (some ⟨b1, 0, none⟩)]] G M ((b1, .cells (List.toArray t.cells) 105 (0, 0)) :: L) (fun v M' L' => M = M' ∧ (b1, .cells (List.toArray t.cells) 105 (0, 0)) :: L = L' ∧ v = .bool (anyBad t.n way)) noPanic := by
  intro b1
  refine zfn Tryz.func224 rfl 9 rfl <| zr <| as0 rfl <| zq <| zr <| mvS rfl <| mvF rfl <| zca rfl (indexFuncM_spec t h hw) ?_
  rintro _ _ _ _ ⟨rfl, rfl, r, rfl, hr⟩
  refine tl_y rfl (y_geq rfl rfl) <| asB rfl <| zq <| .s1 4 rfl <| x_ret (ret1 rfl rfl lR ⟨rfl, rfl, by
   congr 1
   rw [Bool.eq_iff_iff, decide_eq_true_iff]
   exact hr⟩)
 have hno : ∀ {A' : Option Addr} {m' c' : Nat} {M' : Mem}, ¬ okW t nl q.toNat way → ∃ A' m' c', (Value.tuple #[.slice none 0 0, .int .i64 1]) = .tuple #[.slice A' m' c', .int .i64 (climbE t nl q.toNat way)] ∧ Bytes M' A' m' c' (climbB t name q.toNat key way) := by
  intro _ _ _ M' hn
  rw [climbE, if_neg hn, climbB, if_neg (by rw [hnl]; exact hn)]
  exact ⟨_, _, _, rfl, Row.nil _ _⟩
 refine zfn Tryz.func173 rfl 80 rfl <| zr <| tl_e rfl <| e_box rfl <| fun b1 => as0 rfl <| as0 rfl <| zq <| zr <| mvS rfl <| tl_y rfl (y_makeFunc rfl rfl) <| zca rfl (hcf b1) ?_
 rintro _ _ _ _ ⟨rfl, rfl, rfl⟩
 refine asB rfl <| zq <| .s6 1 2 3 4 5 12 rfl rfl rfl rfl rfl rfl <| zr2 <| tLg rfl rfl <| mvS rfl <| zca rfl (mright_spec hg t) ?_
 rintro _ M1 _ hM1 ⟨rfl, rfl⟩
 refine tl_y rfl (y_notd rfl) <| mvB rfl <| tl_cases (s := 25) rfl (fun hk1 => ?_) (fun hk1 => ?_)
 ·
  refine sk5 rfl rfl rfl rfl rfl <| tPt rfl rfl <| mvB rfl <| sk5 rfl rfl rfl rfl rfl <| tPt rfl rfl <| mvB rfl <| tl_skip rfl <| tPt rfl rfl <| zq <| .s6 1 2 3 4 5 41 rfl rfl rfl rfl rfl rfl <| x_true rfl rfl <| zr <| as0 rfl <| as0 rfl <| zq <| .s2 10 11 rfl rfl <| x_ret (.then_ret (.dropTo L iI (ret2 rfl rfl rfl hM1 ⟨rfl, hno (A' := none) (m' := 0) (c' := 0) (fun h => hk1 h.1)⟩)))
 have hok : okS t nl := Classical.not_not.1 hk1
 obtain ⟨hokc, H, hH, hH1, hH25, hlv⟩ := okS_facts hok
 have hpw := pw2_25 hH25
 refine mvI rfl <| tl_y rfl (y_convN64 rfl (by omega)) <| tLg rfl rfl ?_
 refine zca rfl (Leaves_spec t) ?_
 rintro _ _ _ _ ⟨rfl, rfl, rfl⟩
 rw [hlv]
 refine tl_y rfl (y_geq rfl rfl) <| tPf rfl rfl <| mvB rfl <| tl_cases (s := 32) rfl (fun hk2 => ?_) (fun hk2 => ?_)
 ·
  refine sk5 rfl rfl rfl rfl rfl <| tPt rfl rfl <| mvB rfl <| tl_skip rfl <| tPt rfl rfl <| zq <| .s6 1 2 3 4 5 41 rfl rfl rfl rfl rfl rfl <| x_true rfl rfl <| zr <| as0 rfl <| as0 rfl <| zq <| .s2 10 11 rfl rfl <| x_ret (.then_ret (.dropTo L iI (ret2 rfl rfl rfl hM1 ⟨rfl, hno (A' := none) (m' := 0) (c' := 0) (fun h => by have := h.2.1; omega)⟩)))
 refine mvS rfl <| tLen rfl <| tFa rfl <| tLd rfl rfl <| tl_y rfl (y_neq rfl rfl) <| tPf rfl rfl <| mvB rfl <| tl_cases (s := 39) rfl (fun hk3 => ?_) (fun hk3 => ?_)
 ·
  refine tl_skip rfl <| tPt rfl rfl <| zq <| .s6 1 2 3 4 5 41 rfl rfl rfl rfl rfl rfl <| x_true rfl rfl <| zr <| as0 rfl <| as0 rfl <| zq <| .s2 10 11 rfl rfl <| x_ret (.then_ret (.dropTo L iI (ret2 rfl rfl rfl hM1 ⟨rfl, hno (A' := none) (m' := 0) (c' := 0) (fun h => by have := h.2.2.1; omega)⟩)))
 refine mvB rfl <| tPf rfl rfl <| zq <| .s6 1 2 3 4 5 41 rfl rfl rfl rfl rfl rfl <| x_condb rfl (fun hc1 => ?_) (fun hc1 => ?_)
 ·
  refine zr <| as0 rfl <| as0 rfl <| zq <| .s2 10 11 rfl rfl <| x_ret (.then_ret (.dropTo L iI (ret2 rfl rfl rfl hM1 ⟨rfl, hno (A' := none) (m' := 0) (c' := 0) (fun h => by rw [anyBad_iff.2 h.2.2.2] at hc1; cases hc1)⟩)))
 have hokW : okW t nl q.toNat way := ⟨hok, by omega, by omega, anyBad_iff.1 (by simpa using hc1)⟩
 have hq : q.toNat < pw2 H := by omega
 have hwl : wl = H := by omega
 obtain ⟨p, hp⟩ : ∃ p, p = pw2 H + q.toNat := ⟨_, rfl⟩
 refine x_skip <| .then_normal <| x_seq <| x_draw 12 hmix rfl <| zy 0 rfl rfl (y_lg rfl rfl) <| pmS 1 rfl rfl <| pmI 2 rfl rfl <| pmS 3 rfl rfl <| pFa 5 rfl rfl <| zy 6 rfl rfl (y_load (v := .int .i64 ((H : Nat) : Int)) rfl rfl (by rw [← hH]; exact .own iI iI)) <| zp 7 rfl rfl (y_shl32 (a := 1) rfl rfl) ?_
 rw [show u32v (shl32 1 H) = .int .u32 ((pw2 H : Nat) : Int) from congrArg (fun (x : Nat) => Value.int .u32 (x : Int)) (shl32_h hH25)]
 refine pmI 8 rfl rfl <| zp 9 rfl rfl (y_addN32 rfl rfl (by omega)) ?_
 rw [show ((pw2 H : Nat) : Int) + (q.toNat : Int) = ((p / pw2 0 : Nat) : Int) by rw [show pw2 0 = 1 from rfl, Nat.div_one, hp]; omega]
 refine ze 4 rfl rfl <| e_call' rfl (leaf_spec (hg.mono hM1) t hH hH25 (hname.mono hM1) q hq (hkey.mono hM1) hkl) ?_
 rintro _ M2 _ hM2 ⟨rfl, A2, n2, c2, rfl, hA2⟩
 refine ⟨⟨hM2, Keeps.mem⟩, ?_⟩
 refine paS 10 rfl rfl <| paI 11 rfl rfl <| zz <| .then_normal <| .s5 1 4 5 13 14 rfl rfl rfl rfl rfl <| zr2 <| mvS rfl <| tLen rfl <| mv0 rfl <| zq <| x_block ?_
 refine x_loop (I := fun m' F D M3 L3 => ∃ (k : Nat) (A3 : Option Addr) (n3 c3 : Nat), m' = wl - k ∧ k ≤ wl ∧ Le M2 M3 ∧ Bytes M3 A3 n3 c3 (clX t name way p (leafB t name q.toNat key) k) ∧ D = [] ∧ (b1, .cells (List.toArray t.cells) 105 (0, 0)) :: L = L3 ∧ F = [(1, .slice NA nl nc), (5, .pointer (some ⟨b1, 0, none⟩)), (13, .slice A3 n3 c3), (14, .int .u32 ((p / pw2 k : Nat) : Int)), (52, .slice WA wl wc), (53, .int .i64 wl), (54, .int .i64 k)]) (wl) (F0 := [(1, _), (5, _), (13, _), (14, _), (52, _), (53, _), (54, _)]) ?_ (cs7 rfl rfl rfl rfl rfl rfl rfl) ?_
 ·
  exact ⟨0, A2, n2, c2, rfl, by omega, Le.refl _, hA2, rfl, rfl, rfl⟩
 rintro m _ _ M3 _ ⟨k, A3, n3, c3, rfl, hkk, he, hA3, rfl, rfl, rfl⟩
 refine zr <| tl_y rfl (y_lss rfl rfl) <| zq <| x_seq <| x_cond rfl (fun hc2 => ?_) (fun hc2 => ?_)
 ·
  have hkw : k < wl := by omega
  have hd3 := hM1.trans (hM2.trans he)
  obtain ⟨g, o, rfl, hcell⟩ := (h.mono hd3).addr (by omega)
  obtain ⟨A4, n4, c4, hv4, hb4⟩ := hw.get k (by omega)
  have hn4 := hb4.size
  have hn4' := hokW.2.2.2 _ (getD_mem way k [] (by omega))
  have hn3 := hA3.size
  have hn3' := clX_le t name way p (leafB_le t name q.toNat key) k
  have hbig : t.n ≤ 32 := by rcases hokc.2 with h | h <;> omega
  have hdl := Nat.div_le_self p (pw2 (k + 1))
  obtain ⟨y, hy⟩ : ∃ y : UInt32, y.toNat = p / pw2 (k + 1) := ⟨UInt32.ofNat (p / pw2 (k + 1)), by rw [UInt32.toNat_ofNat', Nat.mod_eq_of_lt (by omega)]⟩
  obtain ⟨z, hz⟩ : ∃ z, z = p / pw2 k := ⟨_, rfl⟩
  have hyz : y.toNat = z / 2 := by rw [hy, hz, div_pw2]
  have hzl : z ≤ p := by rw [hz]; exact Nat.div_le_self _ _
  clear hdl
  rw [← hz]
  refine x_skip <| .then_normal <| x_seq <| x_block <| zr <| tl_y rfl (y_indexAddr rfl rfl (by omega)) <| tl_y rfl (y_load rfl rfl (.at_ (hcell _ k _ hv4) (by omega))) <| asS rfl <| zq <| zr <| mvS rfl <| mvS rfl <| tl_y rfl (y_buildArr rfl) <| tl_e rfl <| e_alloc <| fun b2 => tl_e rfl <| e_sT rfl rfl <| zq <| .sub (F' := [(1, _), (5, _), (13, _), (14, _), (16, _), (17, _), (52, _), (53, _), (54, _)]) (cs9 rfl rfl rfl rfl rfl rfl rfl rfl rfl) <| zr2 <| mvI rfl <| tl_y rfl (y_remI rfl rfl (by omega)) <| tl_y rfl (y_eql rfl rfl) <| zq <| x_cond rfl (fun hc3 => ?_) (fun hc3 => ?_)
  ·
   refine x_region <| mvS rfl <| mvS rfl <| tl_y rfl (y_buildArr rfl) <| tl_e rfl <| e_sT rfl rfl <| zq <| .s8 1 5 13 14 17 52 53 54 rfl rfl rfl rfl rfl rfl rfl rfl <| zr <| mvI rfl <| tl_y rfl (y_quoN32 rfl rfl (by omega)) ?_
   rw [show ((z : Nat) : Int) / 2 = ((y.toNat : Nat) : Int) by rw [hyz]; omega]
   refine asI rfl <| zq <| x_region <| tLg rfl rfl <| mvS rfl <| mvI rfl <| tl_y rfl (y_indexArrK 0 rfl rfl (by omega)) <| tLd rfl rfl <| tl_y rfl (y_indexArrK 1 rfl rfl (by omega)) <| tLd rfl rfl ?_
   refine zca rfl (inner_spec (hg.mono hd3) t (hname.mono hd3) y (hb4.mono hd3) (by omega) hA3 (by omega)) ?_
   rintro _ M5 _ hM5 ⟨rfl, A5, n5, c5, rfl, hA5⟩
   rw [hy] at hA5 ⊢
   refine asS rfl <| tl_nil <| .block_normal <| .then_normal <| .s7 1 5 13 14 52 53 54 rfl rfl rfl rfl rfl rfl rfl <| x_region <| tl_y rfl (y_addI rfl rfl (by omega)) <| mvI rfl <| .dropTo ((b1, .cells (List.toArray t.cells) 105 (0, 0)) :: L) iI <| tl_nil <| .loop_next (m' := wl - (k + 1)) (by omega) (F' := [(1, _), (5, _), (13, _), (14, _), (52, _), (53, _), (54, _)]) (cs7 rfl rfl rfl rfl rfl rfl rfl) ?_
   exact ⟨k + 1, A5, n5, c5, rfl, by omega, he.trans hM5, by rw [clX, ← hz, if_pos (by omega)]; exact hA5, rfl, rfl, rfl⟩
  refine x_skip <| .then_normal <| .s8 1 5 13 14 17 52 53 54 rfl rfl rfl rfl rfl rfl rfl rfl <| zr <| mvI rfl <| tl_y rfl (y_quoN32 rfl rfl (by omega)) ?_
  rw [show ((z : Nat) : Int) / 2 = ((y.toNat : Nat) : Int) by rw [hyz]; omega]
  refine asI rfl <| zq <| x_region <| tLg rfl rfl <| mvS rfl <| mvI rfl <| tl_y rfl (y_indexArrK 0 rfl rfl (by omega)) <| tLd rfl rfl <| tl_y rfl (y_indexArrK 1 rfl rfl (by omega)) <| tLd rfl rfl ?_
  refine zca rfl (inner_spec (hg.mono hd3) t (hname.mono hd3) y hA3 (by omega) (hb4.mono hd3) (by omega)) ?_
  rintro _ M5 _ hM5 ⟨rfl, A5, n5, c5, rfl, hA5⟩
  rw [hy] at hA5 ⊢
  refine asS rfl <| tl_nil <| .block_normal <| .then_normal <| .s7 1 5 13 14 52 53 54 rfl rfl rfl rfl rfl rfl rfl <| x_region <| tl_y rfl (y_addI rfl rfl (by omega)) <| mvI rfl <| .dropTo ((b1, .cells (List.toArray t.cells) 105 (0, 0)) :: L) iI <| tl_nil <| .loop_next (m' := wl - (k + 1)) (by omega) (F' := [(1, _), (5, _), (13, _), (14, _), (52, _), (53, _), (54, _)]) (cs7 rfl rfl rfl rfl rfl rfl rfl) ?_
  exact ⟨k + 1, A5, n5, c5, rfl, by omega, he.trans hM5, by rw [clX, ← hz, if_neg (by omega)]; exact hA5, rfl, rfl, rfl⟩
 obtain rfl : k = wl := by omega
 have hn3 := hA3.size
 have hn3' := clX_le t name way p (leafB_le t name q.toNat key) k
 refine x_exit <| .then_exit <| .loop_exit <| .block_exit <| .then_normal <| .s1 13 rfl <| zr <| mvS rfl <| zca rfl (bytesClone_spec hA3 (by omega)) ?_
 rintro _ M4 _ hM4 ⟨rfl, A4, c4, rfl, hA4⟩
 refine asS rfl <| as0 rfl <| zq <| x_ret (.dropTo L iI (ret2 rfl rfl rfl (hM1.trans (hM2.trans (he.trans hM4))) ⟨rfl, _, _, _, by rw [climbE, if_pos hokW], by
  rw [climbB, if_pos (by rw [hnl]; exact hokW), hH, Int.toNat_natCast, ← hp, show way.length = k by omega]
  exact hA4⟩))
end
end Go.Proofs.YtplkoemjffplcaaGreatDoor
