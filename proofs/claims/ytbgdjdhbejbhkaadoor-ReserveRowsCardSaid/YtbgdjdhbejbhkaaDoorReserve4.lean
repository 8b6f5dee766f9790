/-
Contracts of functions, each proved by a walk through its code.
-/
import Derived.Test.YtbgdjdhbejbhkaaDoorReserve3
set_option linter.unusedVariables false
set_option linter.unusedSimpArgs false
namespace Go.Proofs.YtbgdjdhbejbhkaaDoor
open Go Go.Eng
section
variable {G : World} {M : Mem} {L R : Own} {p d c : Nat} {S : DS} {s : SS} {r : DRep} {A0 HA : Option Addr} {l0 c0 hl hc : Nat}
theorem Retire_spec (hg : ShaG M) (h : IsDisk M r S) (ok : OkS S s) {B : Nat} (hw : S.within B) (hB : B ≤ 1000000) (hb : Bytes M A0 l0 c0 s.b) {head : List UInt8} (hh : Bytes M HA hl hc head) (x : Cn) :
    Con Tryd.prog 59 #[.pointer (some ⟨c, 0, none⟩)] G M (dL d r S (sL p d s A0 l0 c0 :: cL c x HA hl hc p :: R))
      (fun v M' L' => SK p d (retireC S s x head).1.1.1 (retireC S s x head).1.1.2 (cL c (retireC S s x head).1.2 HA hl hc p :: R) M' L' ∧ v = .int .i64 (retireC S s x head).2) noPanic := by
  refine enter (args := [_]) (fn := Tryd.f59) ⟨Tryd.func59, rfl, by kernel_rfl, by kernel_rfl⟩ 12 rfl ?_
  refine x_seq (x_region ?_)
  refine tl_y rfl (y_assign rfl) ?_
  refine tl_nil (.then_normal ?_)
  refine x_seq (x_region ?_)
  refine tl_y rfl (y_move (v := .pointer _) rfl) ?_
  refine tl_y rfl (y_nilCheck rfl) ?_
  refine tl_y rfl (y_fieldAddr rfl) ?_
  refine tl_y rfl (y_loadAgg rfl rfl (.own inferInstance inferInstance)) ?_
  refine tl_e rfl (e_alloc (fun b1 => ?_))
  refine tl_e rfl (e_store rfl rfl (by rfl) (by rfl) inferInstance inferInstance inferInstance ?_)
  refine tl_nil (.then_normal ?_)
  refine .sub (F' := [(0, _), (3, _)]) (.cons rfl (.cons rfl .nil)) ?_
  refine x_seq (x_region ?_)
  refine tl_y rfl (y_fieldAddr rfl) ?_
  refine tl_e rfl (e_store rfl rfl (by rfl) (by rfl) inferInstance inferInstance inferInstance ?_)
  refine tl_nil (.then_normal ?_)
  refine x_seq (x_region ?_)
  refine tl_y rfl (y_move (v := .pointer _) rfl) ?_
  refine tl_y rfl (y_loadAgg rfl rfl (.own inferInstance inferInstance)) ?_
  refine .to (dL d r S (sL p d s A0 l0 c0 :: cL c x HA hl hc p :: (b1, .cells (List.toArray (ccells { x with retired := true })) 81 (0, 0)) :: R)) inferInstance ?_
  refine tl_e rfl (e_call' rfl (csave_spec hg h ok hw hB hb hh x { x with retired := true }) ?_)
  rintro _ M3 _ hM3 ⟨⟨r', A3, l3, c3, h3, hb3, rfl⟩, rfl⟩
  refine tl_y rfl (y_assign (v := .int _ _) rfl) ?_
  refine tl_nil (.then_normal ?_)
  refine .sub (F' := [(2, _)]) (.cons rfl .nil) ?_
  refine x_ret (.dropTo (dL d r' (saveC S s x { x with retired := true } head).1.1.1 (sL p d (saveC S s x { x with retired := true } head).1.1.2 A3 l3 c3 :: cL c (saveC S s x { x with retired := true } head).1.2 HA hl hc p :: R)) inferInstance (ret1 rfl rfl hM3 ⟨⟨r', A3, l3, c3, h3, hb3, rfl⟩, rfl⟩))
theorem Take_spec (hg : ShaG M) (h : IsDisk M r S) (ok : OkS S s) {B : Nat} (hw : S.within B) (hB : B ≤ 1000000) (hb : Bytes M A0 l0 c0 s.b) {head : List UInt8} (hh : Bytes M HA hl hc head) (x : Cn) :
    Con Tryd.prog 52 #[.pointer (some ⟨c, 0, none⟩)] G M (dL d r S (sL p d s A0 l0 c0 :: cL c x HA hl hc p :: R))
      (fun v M' L' => SK p d (takeC S s x head).1.1.1 (takeC S s x head).1.1.2 (cL c (takeC S s x head).1.2 HA hl hc p :: R) M' L' ∧ v = .tuple #[.int .u64 ((takeC S s x head).2.1.toNat : Int), .int .i64 (takeC S s x head).2.2]) noPanic := by
  have ht : ∀ u v : UInt64, (u.toNat : Int) = v.toNat ↔ u = v := fun u v => by rw [← UInt64.toNat_inj]; omega
  refine enter (args := [_]) (fn := Tryd.f52) ⟨Tryd.func52, rfl, by kernel_rfl, by kernel_rfl⟩ 69 rfl ?_
  refine x_seq (x_region ?_)
  refine tl_y rfl (y_assign rfl) ?_
  refine tl_y rfl (y_assign rfl) ?_
  refine tl_nil (.then_normal ?_)
  refine x_seq ?_
  refine x_block ?_
  refine x_seq (x_region ?_)
  refine tl_y rfl (y_move (v := .pointer _) rfl) ?_
  refine tl_y rfl (y_nilCheck rfl) ?_
  refine tl_y rfl (y_fieldAddr rfl) ?_
  refine tl_y rfl (y_fieldAddr rfl) ?_
  refine tl_y rfl (y_load rfl rfl (.own inferInstance inferInstance)) ?_
  refine tl_y rfl (y_assign (v := .bool _) rfl) ?_
  refine tl_nil (.then_normal ?_)
  refine .sub (F' := [(0, _), (6, _)]) (.cons rfl (.cons rfl .nil)) ?_
  refine x_condb rfl (fun hc1 => ?_) (fun hc1 => ?_)
  ·
    refine x_seq (x_region ?_)
    refine tl_y rfl (y_assign rfl) ?_
    refine tl_y rfl (y_assign rfl) ?_
    refine tl_nil (.then_normal ?_)
    refine x_ret (.block_ret (.then_ret (ret2 rfl rfl rfl (Le.refl _) (by
  rw [show takeC S s x head = (((S, s), x), (0, 13)) by rw [takeC, if_pos hc1]]
  exact ⟨⟨r, A0, l0, c0, h, hb, rfl⟩, rfl⟩))))
  ·
    refine x_seq ?_
    refine x_draw 12 hmix rfl ?_
    refine to_p 0 rfl (by kernel_rfl) rfl (y_move (v := .pointer _) rfl) ?_
    refine to_p 1 rfl (by kernel_rfl) rfl (y_nilCheck rfl) ?_
    refine to_p 2 rfl (by kernel_rfl) rfl (y_fieldAddr rfl) ?_
    refine to_p 3 rfl (by kernel_rfl) rfl (y_fieldAddr rfl) ?_
    refine to_y 4 rfl (by kernel_rfl) rfl (y_load rfl rfl (.own inferInstance inferInstance)) ?_
    refine to_p 5 rfl (by kernel_rfl) rfl (y_move (v := .pointer _) rfl) ?_
    refine to_p 6 rfl (by kernel_rfl) rfl (y_nilCheck rfl) ?_
    refine to_p 7 rfl (by kernel_rfl) rfl (y_fieldAddr rfl) ?_
    refine to_p 8 rfl (by kernel_rfl) rfl (y_fieldAddr rfl) ?_
    refine to_y 9 rfl (by kernel_rfl) rfl (y_load rfl rfl (.own inferInstance inferInstance)) ?_
    refine to_p 10 rfl (by kernel_rfl) rfl (y_eql rfl rfl) ?_
    refine to_p 11 rfl (by kernel_rfl) rfl (y_assign (v := .bool _) rfl) ?_
    refine to_nil (by kernel_rfl) (.then_normal ?_)
    refine .sub (F' := [(0, _), (12, _)]) (.cons rfl (.cons rfl .nil)) ?_
    refine x_cond rfl (fun hc2 => ?_) (fun hc2 => ?_)
    ·
      refine x_seq (x_region ?_)
      refine tl_y rfl (y_assign rfl) ?_
      refine tl_y rfl (y_assign rfl) ?_
      refine tl_nil (.then_normal ?_)
      refine x_ret (.block_ret (.then_ret (ret2 rfl rfl rfl (Le.refl _) (by
  rw [show takeC S s x head = (((S, s), x), (0, 9)) by rw [takeC, if_neg (by simp [hc1]), if_pos ((ht _ _).1 hc2)]]
  exact ⟨⟨r, A0, l0, c0, h, hb, rfl⟩, rfl⟩))))
    ·
      refine x_skip (.block_normal (.then_normal ?_))
      refine x_seq (x_seq ?_)
      refine x_draw 11 hmix rfl ?_
      refine to_p 0 rfl (by kernel_rfl) rfl (y_move (v := .pointer _) rfl) ?_
      refine to_p 1 rfl (by kernel_rfl) rfl (y_nilCheck rfl) ?_
      refine to_p 2 rfl (by kernel_rfl) rfl (y_fieldAddr rfl) ?_
      refine to_p 3 rfl (by kernel_rfl) rfl (y_fieldAddr rfl) ?_
      refine to_y 4 rfl (by kernel_rfl) rfl (y_load rfl rfl (.own inferInstance inferInstance)) ?_
      refine to_p 5 rfl (by kernel_rfl) rfl (y_move (v := .pointer _) rfl) ?_
      refine to_p 6 rfl (by kernel_rfl) rfl (y_nilCheck rfl) ?_
      refine to_p 7 rfl (by kernel_rfl) rfl (y_fieldAddr rfl) ?_
      refine to_p 8 rfl (by kernel_rfl) rfl (y_fieldAddr rfl) ?_
      refine to_y 9 rfl (by kernel_rfl) rfl (y_load rfl rfl (.own inferInstance inferInstance)) ?_
      refine to_p 10 rfl (by kernel_rfl) rfl (y_eql rfl rfl) ?_
      refine to_nil (by kernel_rfl) (.then_normal ?_)
      refine .sub (F' := [(0, _), (34, _)]) (.cons rfl (.cons rfl .nil)) ?_
      refine x_cond rfl (fun hc3 => ?_) (fun hc3 => ?_)
      ·
        refine x_seq (x_region ?_)
        refine tl_y rfl (y_move (v := .pointer _) rfl) ?_
        refine tl_y rfl (y_nilCheck rfl) ?_
        refine tl_y rfl (y_fieldAddr rfl) ?_
        refine tl_y rfl (y_loadAgg rfl rfl (.own inferInstance inferInstance)) ?_
        refine tl_e rfl (e_alloc (fun b1 => ?_))
        refine tl_e rfl (e_store rfl rfl (by rfl) (by rfl) inferInstance inferInstance inferInstance ?_)
        refine tl_nil (.then_normal ?_)
        refine .sub (F' := [(0, _), (4, _)]) (.cons rfl (.cons rfl .nil)) ?_
        refine x_seq (x_region ?_)
        refine tl_y rfl (y_fieldAddr rfl) ?_
        refine tl_y rfl (y_load rfl rfl (.own inferInstance inferInstance)) ?_
        refine tl_y rfl (y_fieldAddr rfl) ?_
        refine tl_y rfl (y_load rfl rfl (.own inferInstance inferInstance)) ?_
        refine tl_y rfl (y_add64 rfl rfl) ?_
        refine tl_y rfl (y_fieldAddr rfl) ?_
        refine tl_y rfl (y_load rfl rfl (.own inferInstance inferInstance)) ?_
        refine tl_y rfl (y_min rfl rfl) ?_
        rw [show (if (x.total.toNat : Int) < ((x.reserved + x.batch).toNat : Int) then (x.total.toNat : Int) else ((x.reserved + x.batch).toNat : Int)) = ((moreC x).reserved.toNat : Int) by rw [moreC]; show _ = ((if _ then _ else _ : UInt64).toNat : Int); split <;> split <;> first | rfl | omega]
        refine tl_y rfl (y_fieldAddr rfl) ?_
        refine tl_e rfl (e_store rfl rfl (by rfl) (by rfl) inferInstance inferInstance inferInstance ?_)
        refine tl_nil (.then_normal ?_)
        refine .sub (F' := [(0, _), (4, _)]) (.cons rfl (.cons rfl .nil)) ?_
        refine x_seq (x_region ?_)
        refine tl_y rfl (y_move (v := .pointer _) rfl) ?_
        refine tl_y rfl (y_loadAgg rfl rfl (.own inferInstance inferInstance)) ?_
        refine .to (dL d r S (sL p d s A0 l0 c0 :: cL c x HA hl hc p :: (b1, .cells (List.toArray [.int .u64 (x.total.toNat : Int), .int .u64 (x.batch.toNat : Int), u64v (moreC x).reserved, .int .u64 (x.next.toNat : Int), .bool x.retired]) 81 (0, 0)) :: R)) inferInstance ?_
        refine tl_e rfl (e_call' rfl (csave_spec hg h ok hw hB hb hh x (moreC x)) ?_)
        rintro _ M3 _ hM3 ⟨⟨r', A3, l3, c3, h3, hb3, rfl⟩, rfl⟩
        refine tl_y rfl (y_assign (v := .int _ _) rfl) ?_
        refine tl_nil (.then_normal ?_)
        refine .sub (F' := [(0, _), (5, _)]) (.cons rfl (.cons rfl .nil)) ?_
        refine x_seq (x_region ?_)
        refine tl_y rfl (y_move (v := .int _ _) rfl) ?_
        refine tl_y rfl (y_neq rfl rfl) ?_
        refine tl_nil (.then_normal ?_)
        refine x_condb rfl (fun hc4 => ?_) (fun hc4 => ?_)
        ·
          refine x_seq (x_region ?_)
          refine tl_y rfl (y_move (v := .int _ _) rfl) ?_
          refine tl_y rfl (y_assign rfl) ?_
          refine tl_y rfl (y_assign (v := .int _ _) rfl) ?_
          refine tl_nil (.then_normal ?_)
          refine .sub (F' := [(2, _), (3, _)]) (.cons rfl (.cons rfl .nil)) ?_
          refine x_ret (.then_ret (.dropTo (dL d r' (saveC S s x (moreC x) head).1.1.1 (sL p d (saveC S s x (moreC x) head).1.1.2 A3 l3 c3 :: cL c (saveC S s x (moreC x) head).1.2 HA hl hc p :: R)) inferInstance (ret2 rfl rfl rfl hM3 (by
  rw [show takeC S s x head = ((saveC S s x (moreC x) head).1, (0, (saveC S s x (moreC x) head).2)) by rw [takeC, if_neg (by simp [hc1]), if_neg (fun e => hc2 ((ht _ _).2 e)), if_pos ((ht _ _).1 hc3), if_pos (by simpa using hc4)]]
  exact ⟨⟨r', A3, l3, c3, h3, hb3, rfl⟩, rfl⟩))))
        ·
          refine x_skip (.then_normal ?_)
          refine x_seq (x_region ?_)
          refine tl_y rfl (y_move (v := .pointer _) rfl) ?_
          refine tl_y rfl (y_nilCheck rfl) ?_
          refine tl_y rfl (y_fieldAddr rfl) ?_
          refine tl_y rfl (y_fieldAddr rfl) ?_
          refine tl_y rfl (y_load rfl rfl (.own inferInstance inferInstance)) ?_
          refine tl_y rfl (y_add64 (b := 1) rfl rfl) ?_
          refine tl_y rfl (y_nilCheck rfl) ?_
          refine tl_y rfl (y_fieldAddr rfl) ?_
          refine tl_y rfl (y_fieldAddr rfl) ?_
          refine tl_e rfl (e_store rfl rfl (by rfl) (by rfl) inferInstance inferInstance inferInstance ?_)
          refine tl_nil (.then_normal ?_)
          refine .sub (F' := [(0, _)]) (.cons rfl .nil) ?_
          refine x_seq (x_region ?_)
          refine tl_y rfl (y_move (v := .pointer _) rfl) ?_
          refine tl_y rfl (y_nilCheck rfl) ?_
          refine tl_y rfl (y_fieldAddr rfl) ?_
          refine tl_y rfl (y_fieldAddr rfl) ?_
          refine tl_y rfl (y_load rfl rfl (.own inferInstance inferInstance)) ?_
          refine tl_y rfl (y_sub64 (b := 1) rfl rfl) ?_
          refine tl_y rfl (y_assign (v := .int _ _) rfl) ?_
          refine tl_y rfl (y_assign rfl) ?_
          refine tl_nil (.then_normal ?_)
          refine .sub (F' := [(2, _), (3, _)]) (.cons rfl (.cons rfl .nil)) ?_
          refine x_ret (.dropTo (dL d r' (saveC S s x (moreC x) head).1.1.1 (sL p d (saveC S s x (moreC x) head).1.1.2 A3 l3 c3 :: (c, .cells (List.toArray [.int .u64 ((saveC S s x (moreC x) head).1.2.total.toNat : Int), .int .u64 ((saveC S s x (moreC x) head).1.2.batch.toNat : Int), .int .u64 ((saveC S s x (moreC x) head).1.2.reserved.toNat : Int), u64v ((saveC S s x (moreC x) head).1.2.next + 1), .bool (saveC S s x (moreC x) head).1.2.retired, .slice HA hl hc, .pointer (some ⟨p, 0, none⟩)]) 160 (0, 0)) :: R)) inferInstance (ret2 rfl rfl rfl hM3 (by
  rw [show takeC S s x head = (((saveC S s x (moreC x) head).1.1, nextC' (saveC S s x (moreC x) head).1.2), ((nextC' (saveC S s x (moreC x) head).1.2).next - 1, 0)) by rw [takeC, if_neg (by simp [hc1]), if_neg (fun e => hc2 ((ht _ _).2 e)), if_pos ((ht _ _).1 hc3), if_neg (by simpa using hc4)]]
  exact ⟨⟨r', A3, l3, c3, h3, hb3, rfl⟩, rfl⟩)))
      ·
        refine x_skip (.then_normal ?_)
        refine x_seq (x_region ?_)
        refine tl_y rfl (y_move (v := .pointer _) rfl) ?_
        refine tl_y rfl (y_nilCheck rfl) ?_
        refine tl_y rfl (y_fieldAddr rfl) ?_
        refine tl_y rfl (y_fieldAddr rfl) ?_
        refine tl_y rfl (y_load rfl rfl (.own inferInstance inferInstance)) ?_
        refine tl_y rfl (y_add64 (b := 1) rfl rfl) ?_
        refine tl_y rfl (y_nilCheck rfl) ?_
        refine tl_y rfl (y_fieldAddr rfl) ?_
        refine tl_y rfl (y_fieldAddr rfl) ?_
        refine tl_e rfl (e_store rfl rfl (by rfl) (by rfl) inferInstance inferInstance inferInstance ?_)
        refine tl_nil (.then_normal ?_)
        refine .sub (F' := [(0, _)]) (.cons rfl .nil) ?_
        refine x_seq (x_region ?_)
        refine tl_y rfl (y_move (v := .pointer _) rfl) ?_
        refine tl_y rfl (y_nilCheck rfl) ?_
        refine tl_y rfl (y_fieldAddr rfl) ?_
        refine tl_y rfl (y_fieldAddr rfl) ?_
        refine tl_y rfl (y_load rfl rfl (.own inferInstance inferInstance)) ?_
        refine tl_y rfl (y_sub64 (b := 1) rfl rfl) ?_
        refine tl_y rfl (y_assign (v := .int _ _) rfl) ?_
        refine tl_y rfl (y_assign rfl) ?_
        refine tl_nil (.then_normal ?_)
        refine .sub (F' := [(2, _), (3, _)]) (.cons rfl (.cons rfl .nil)) ?_
        refine x_ret (.to (dL d r S (sL p d s A0 l0 c0 :: (c, .cells (List.toArray [.int .u64 (x.total.toNat : Int), .int .u64 (x.batch.toNat : Int), .int .u64 (x.reserved.toNat : Int), u64v (x.next + 1), .bool x.retired, .slice HA hl hc, .pointer (some ⟨p, 0, none⟩)]) 160 (0, 0)) :: R)) inferInstance (ret2 rfl rfl rfl (Le.refl _) (by
  rw [show takeC S s x head = (((S, s), nextC' x), ((nextC' x).next - 1, 0)) by rw [takeC, if_neg (by simp [hc1]), if_neg (fun e => hc2 ((ht _ _).2 e)), if_neg (fun e => hc3 ((ht _ _).2 e))]]
  exact ⟨⟨r, A0, l0, c0, h, hb, rfl⟩, rfl⟩)))
end
end Go.Proofs.YtbgdjdhbejbhkaaDoor
