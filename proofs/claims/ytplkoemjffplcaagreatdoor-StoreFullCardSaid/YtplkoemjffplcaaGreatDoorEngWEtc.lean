/-
The walk engine: numbers of a fixed width. The walk engine: more on arrays, panics, drawn regions.
-/
import Derived.Test.YtplkoemjffplcaaGreatDoorEngIEtc
import Derived.Laws.StructEq
set_option linter.all false
namespace Go.Eng
theorem wrapU8 (n : Int) : IntKind.u8.wrap n = n % 256 := by simp [IntKind.wrap, IntKind.bits, IntKind.signed]
theorem wrapU16 (n : Int) : IntKind.u16.wrap n = n % 65536 := by simp [IntKind.wrap, IntKind.bits, IntKind.signed]
theorem wrapU32 (n : Int) : IntKind.u32.wrap n = n % 4294967296 := by simp [IntKind.wrap, IntKind.bits, IntKind.signed]
theorem wrapU64 (n : Int) : IntKind.u64.wrap n = n % 18446744073709551616 := by simp [IntKind.wrap, IntKind.bits, IntKind.signed]
abbrev u8v (x : UInt8) : Value := .int .u8 (x.toNat : Int)
instance {x : UInt8} : CellsOf (u8v x) [u8v x] := ⟨rfl⟩
theorem backU8 (x : UInt8) : IntKind.u8.wrap (x.toNat : Int) = x.toNat := by have := x.toNat_lt; rw [wrapU8]; omega
section
variable {P : Program} {ty : TypeId} {F : Fr} {M : Mem} {L : Own} {x y : Operand} {t t' : TypeId} {a b : UInt8}
theorem y_xor8 (hx : ev F x = some (u8v a)) (hy : ev F y = some (u8v b)) : Yld P (.binOp .xor t x y t') ty F M L (u8v (a ^^^ b)) := by
 have h := y_xor (P := P) (M := M) (L := L) (t := t) (t' := t') (ty := ty) hx hy
 have h1 : BitVec.ofInt 8 (a.toNat : Int) = a.toBitVec := by simp
 have h2 : BitVec.ofInt 8 (b.toNat : Int) = b.toBitVec := by simp
 have e : IntKind.u8.wrap ((BitVec.ofInt IntKind.u8.bits (a.toNat : Int) ^^^ BitVec.ofInt IntKind.u8.bits (b.toNat : Int)).toNat : Int) = ((a ^^^ b).toNat : Int) := by
  show IntKind.u8.wrap ((BitVec.ofInt 8 (a.toNat : Int) ^^^ BitVec.ofInt 8 (b.toNat : Int)).toNat : Int) = _
  rw [h1, h2]; exact backU8 (a ^^^ b)
 rwa [e] at h
end
abbrev u32v (x : UInt32) : Value := .int .u32 (x.toNat : Int)
instance {x : UInt32} : CellsOf (u32v x) [u32v x] := ⟨rfl⟩
def shl32 (x : UInt32) (s : Nat) : UInt32 := UInt32.ofNat (x.toNat * 2 ^ s)
def shr32 (x : UInt32) (s : Nat) : UInt32 := UInt32.ofNat (x.toNat / 2 ^ s)
theorem backU32 (x : UInt32) : IntKind.u32.wrap (x.toNat : Int) = x.toNat := by have := x.toNat_lt; rw [wrapU32]; omega
section
variable {P : Program} {ty : TypeId} {F : Fr} {M : Mem} {L : Own} {x y : Operand} {t t' : TypeId} {a b : UInt32}
theorem y_add32 (hx : ev F x = some (u32v a)) (hy : ev F y = some (u32v b)) : Yld P (.binOp .add t x y t') ty F M L (u32v (a + b)) := by
 have h := y_add (P := P) (M := M) (L := L) (t := t) (t' := t') (ty := ty) hx hy
 have e : IntKind.u32.wrap ((a.toNat : Int) + (b.toNat : Int)) = ((a + b).toNat : Int) := by
  rw [wrapU32, UInt32.toNat_add]; omega
 rwa [e] at h
theorem y_and32 (hx : ev F x = some (u32v a)) (hy : ev F y = some (u32v b)) : Yld P (.binOp .and t x y t') ty F M L (u32v (a &&& b)) := by
 have h := y_and (P := P) (M := M) (L := L) (t := t) (t' := t') (ty := ty) hx hy
 have h1 : BitVec.ofInt 32 (a.toNat : Int) = a.toBitVec := by simp
 have h2 : BitVec.ofInt 32 (b.toNat : Int) = b.toBitVec := by simp
 have e : IntKind.u32.wrap ((BitVec.ofInt IntKind.u32.bits (a.toNat : Int) &&& BitVec.ofInt IntKind.u32.bits (b.toNat : Int)).toNat : Int) = ((a &&& b).toNat : Int) := by
  show IntKind.u32.wrap ((BitVec.ofInt 32 (a.toNat : Int) &&& BitVec.ofInt 32 (b.toNat : Int)).toNat : Int) = _
  rw [h1, h2]; exact backU32 (a &&& b)
 rwa [e] at h
theorem y_or32 (hx : ev F x = some (u32v a)) (hy : ev F y = some (u32v b)) : Yld P (.binOp .or t x y t') ty F M L (u32v (a ||| b)) := by
 have h := y_or (P := P) (M := M) (L := L) (t := t) (t' := t') (ty := ty) hx hy
 have h1 : BitVec.ofInt 32 (a.toNat : Int) = a.toBitVec := by simp
 have h2 : BitVec.ofInt 32 (b.toNat : Int) = b.toBitVec := by simp
 have e : IntKind.u32.wrap ((BitVec.ofInt IntKind.u32.bits (a.toNat : Int) ||| BitVec.ofInt IntKind.u32.bits (b.toNat : Int)).toNat : Int) = ((a ||| b).toNat : Int) := by
  show IntKind.u32.wrap ((BitVec.ofInt 32 (a.toNat : Int) ||| BitVec.ofInt 32 (b.toNat : Int)).toNat : Int) = _
  rw [h1, h2]; exact backU32 (a ||| b)
 rwa [e] at h
theorem y_xor32 (hx : ev F x = some (u32v a)) (hy : ev F y = some (u32v b)) : Yld P (.binOp .xor t x y t') ty F M L (u32v (a ^^^ b)) := by
 have h := y_xor (P := P) (M := M) (L := L) (t := t) (t' := t') (ty := ty) hx hy
 have h1 : BitVec.ofInt 32 (a.toNat : Int) = a.toBitVec := by simp
 have h2 : BitVec.ofInt 32 (b.toNat : Int) = b.toBitVec := by simp
 have e : IntKind.u32.wrap ((BitVec.ofInt IntKind.u32.bits (a.toNat : Int) ^^^ BitVec.ofInt IntKind.u32.bits (b.toNat : Int)).toNat : Int) = ((a ^^^ b).toNat : Int) := by
  show IntKind.u32.wrap ((BitVec.ofInt 32 (a.toNat : Int) ^^^ BitVec.ofInt 32 (b.toNat : Int)).toNat : Int) = _
  rw [h1, h2]; exact backU32 (a ^^^ b)
 rwa [e] at h
theorem y_shl32 {k : IntKind} {s : Nat} (hx : ev F x = some (u32v a)) (hy : ev F y = some (.int k (s : Int))) : Yld P (.binOp .shl t x y t') ty F M L (u32v (shl32 a s)) := by
 have h := y_shl (P := P) (M := M) (L := L) (t := t) (t' := t') (ty := ty) hx hy (by omega)
 have e : IntKind.u32.wrap ((a.toNat : Int) * 2 ^ (min (s : Int).toNat IntKind.u32.bits)) = ((shl32 a s).toNat : Int) := by
  rw [wrapU32, shl32, UInt32.toNat_ofNat']
  have hb : IntKind.u32.bits = 32 := rfl
  rw [hb, Int.toNat_natCast]
  rcases Nat.lt_or_ge s 32 with hs | hs
  ·
   rw [Nat.min_eq_left (by omega)]; simp
  rw [Nat.min_eq_right hs]
  obtain ⟨d, rfl⟩ : ∃ d, s = 32 + d := ⟨s - 32, by omega⟩
  rw [Nat.pow_add]
  have e1 : a.toNat * (2 ^ 32 * 2 ^ d) = 2 ^ 32 * (a.toNat * 2 ^ d) := by rw [Nat.mul_left_comm]
  rw [e1, Nat.mul_mod_right]
  omega
 rwa [e] at h
theorem y_shr32 {k : IntKind} {s : Nat} (hx : ev F x = some (u32v a)) (hy : ev F y = some (.int k (s : Int))) : Yld P (.binOp .shr t x y t') ty F M L (u32v (shr32 a s)) := by
 have h := y_shr (P := P) (M := M) (L := L) (t := t) (t' := t') (ty := ty) hx hy (by omega)
 have e : Int.fdiv (a.toNat : Int) (2 ^ (min (s : Int).toNat IntKind.u32.bits)) = ((shr32 a s).toNat : Int) := by
  have hb : IntKind.u32.bits = 32 := rfl
  have ha := a.toNat_lt
  rw [shr32, UInt32.toNat_ofNat', hb, Int.toNat_natCast, Nat.mod_eq_of_lt (Nat.lt_of_le_of_lt (Nat.div_le_self _ _) (by omega))]
  rw [Int.fdiv_eq_ediv_of_nonneg _ (by have := Int.pow_nonneg (n := 2) (m := min s 32) (by omega); omega)]
  rcases Nat.lt_or_ge s 32 with hs | hs
  ·
   rw [Nat.min_eq_left (by omega)]; simp
  rw [Nat.min_eq_right hs]
  have h1 : a.toNat / 2 ^ s = 0 := Nat.div_eq_of_lt (Nat.lt_of_lt_of_le ha (Nat.pow_le_pow_right (by omega) hs))
  rw [h1]
  omega
 rwa [e] at h
theorem y_com32 (hx : ev F x = some (u32v a)) : Yld P (.unOp .xor t x) ty F M L (u32v (~~~a)) := by
 have h := y_com (P := P) (M := M) (L := L) (t := t) (ty := ty) hx
 have e : IntKind.u32.wrap ((BitVec.ofInt IntKind.u32.bits (if IntKind.u32.signed then -1 else IntKind.u32.max) ^^^ BitVec.ofInt IntKind.u32.bits (a.toNat : Int)).toNat : Int) = ((~~~a).toNat : Int) := by
  have h1 : BitVec.ofInt 32 (a.toNat : Int) = a.toBitVec := by simp
  have e1 : BitVec.ofInt 32 (if IntKind.u32.signed then -1 else IntKind.u32.max) = BitVec.allOnes 32 := by rfl
  show IntKind.u32.wrap ((BitVec.ofInt 32 (if IntKind.u32.signed then -1 else IntKind.u32.max) ^^^ BitVec.ofInt 32 (a.toNat : Int)).toNat : Int) = _
  rw [e1, h1]
  have e2 : (BitVec.allOnes 32 ^^^ a.toBitVec).toNat = (~~~a).toNat := by rw [BitVec.allOnes_xor]; rfl
  exact e2 ▸ backU32 (~~~a)
 rwa [e] at h
theorem y_of32 {z z' : Value} {s s' b0 b' : Nat} {d0 : TypeDesc} {k : IntKind} {v : Int} [ti : TI P t d0 z s b0] [ti' : TI P t' (.int .u32) z' s' b'] (hx : ev F x = some (.int k v)) : Yld P (.convert t t' x) ty F M L (u32v (UInt32.ofInt v)) := by
 have e : IntKind.u32.wrap v = ((UInt32.ofInt v).toNat : Int) := by rw [wrapU32]; show _ = ((UInt32.ofNat (v % 4294967296).toNat).toNat : Int); rw [UInt32.toNat_ofNat']; have := Int.emod_nonneg v (show (4294967296 : Int) ≠ 0 by omega); have := Int.emod_lt_of_pos v (show (0 : Int) < 4294967296 by omega); omega
 exact y_convE hx e
end
abbrev u64v (x : UInt64) : Value := .int .u64 (x.toNat : Int)
instance {x : UInt64} : CellsOf (u64v x) [u64v x] := ⟨rfl⟩
def shl64 (x : UInt64) (s : Nat) : UInt64 := UInt64.ofNat (x.toNat * 2 ^ s)
def shr64 (x : UInt64) (s : Nat) : UInt64 := UInt64.ofNat (x.toNat / 2 ^ s)
theorem backU64 (x : UInt64) : IntKind.u64.wrap (x.toNat : Int) = x.toNat := by have := x.toNat_lt; rw [wrapU64]; omega
section
variable {P : Program} {ty : TypeId} {F : Fr} {M : Mem} {L : Own} {x y : Operand} {t t' : TypeId} {a b : UInt64}
theorem y_add64 (hx : ev F x = some (u64v a)) (hy : ev F y = some (u64v b)) : Yld P (.binOp .add t x y t') ty F M L (u64v (a + b)) := by
 have h := y_add (P := P) (M := M) (L := L) (t := t) (t' := t') (ty := ty) hx hy
 have e : IntKind.u64.wrap ((a.toNat : Int) + (b.toNat : Int)) = ((a + b).toNat : Int) := by
  rw [wrapU64, UInt64.toNat_add]; omega
 rwa [e] at h
theorem y_sub64 (hx : ev F x = some (u64v a)) (hy : ev F y = some (u64v b)) : Yld P (.binOp .sub t x y t') ty F M L (u64v (a - b)) := by
 have h := y_sub (P := P) (M := M) (L := L) (t := t) (t' := t') (ty := ty) hx hy
 have e : IntKind.u64.wrap ((a.toNat : Int) - (b.toNat : Int)) = ((a - b).toNat : Int) := by
  have h1 := a.toNat_lt; have h2 := b.toNat_lt; rw [wrapU64, UInt64.toNat_sub]; omega
 rwa [e] at h
theorem y_mul64 (hx : ev F x = some (u64v a)) (hy : ev F y = some (u64v b)) : Yld P (.binOp .mul t x y t') ty F M L (u64v (a * b)) := by
 have h := y_mul (P := P) (M := M) (L := L) (t := t) (t' := t') (ty := ty) hx hy
 have e : IntKind.u64.wrap ((a.toNat : Int) * (b.toNat : Int)) = ((a * b).toNat : Int) := by
  rw [wrapU64, UInt64.toNat_mul]; simp
 rwa [e] at h
theorem y_and64 (hx : ev F x = some (u64v a)) (hy : ev F y = some (u64v b)) : Yld P (.binOp .and t x y t') ty F M L (u64v (a &&& b)) := by
 have h := y_and (P := P) (M := M) (L := L) (t := t) (t' := t') (ty := ty) hx hy
 have h1 : BitVec.ofInt 64 (a.toNat : Int) = a.toBitVec := by simp
 have h2 : BitVec.ofInt 64 (b.toNat : Int) = b.toBitVec := by simp
 have e : IntKind.u64.wrap ((BitVec.ofInt IntKind.u64.bits (a.toNat : Int) &&& BitVec.ofInt IntKind.u64.bits (b.toNat : Int)).toNat : Int) = ((a &&& b).toNat : Int) := by
  show IntKind.u64.wrap ((BitVec.ofInt 64 (a.toNat : Int) &&& BitVec.ofInt 64 (b.toNat : Int)).toNat : Int) = _
  rw [h1, h2]; exact backU64 (a &&& b)
 rwa [e] at h
theorem y_or64 (hx : ev F x = some (u64v a)) (hy : ev F y = some (u64v b)) : Yld P (.binOp .or t x y t') ty F M L (u64v (a ||| b)) := by
 have h := y_or (P := P) (M := M) (L := L) (t := t) (t' := t') (ty := ty) hx hy
 have h1 : BitVec.ofInt 64 (a.toNat : Int) = a.toBitVec := by simp
 have h2 : BitVec.ofInt 64 (b.toNat : Int) = b.toBitVec := by simp
 have e : IntKind.u64.wrap ((BitVec.ofInt IntKind.u64.bits (a.toNat : Int) ||| BitVec.ofInt IntKind.u64.bits (b.toNat : Int)).toNat : Int) = ((a ||| b).toNat : Int) := by
  show IntKind.u64.wrap ((BitVec.ofInt 64 (a.toNat : Int) ||| BitVec.ofInt 64 (b.toNat : Int)).toNat : Int) = _
  rw [h1, h2]; exact backU64 (a ||| b)
 rwa [e] at h
theorem y_xor64 (hx : ev F x = some (u64v a)) (hy : ev F y = some (u64v b)) : Yld P (.binOp .xor t x y t') ty F M L (u64v (a ^^^ b)) := by
 have h := y_xor (P := P) (M := M) (L := L) (t := t) (t' := t') (ty := ty) hx hy
 have h1 : BitVec.ofInt 64 (a.toNat : Int) = a.toBitVec := by simp
 have h2 : BitVec.ofInt 64 (b.toNat : Int) = b.toBitVec := by simp
 have e : IntKind.u64.wrap ((BitVec.ofInt IntKind.u64.bits (a.toNat : Int) ^^^ BitVec.ofInt IntKind.u64.bits (b.toNat : Int)).toNat : Int) = ((a ^^^ b).toNat : Int) := by
  show IntKind.u64.wrap ((BitVec.ofInt 64 (a.toNat : Int) ^^^ BitVec.ofInt 64 (b.toNat : Int)).toNat : Int) = _
  rw [h1, h2]; exact backU64 (a ^^^ b)
 rwa [e] at h
theorem y_shl64 {k : IntKind} {s : Nat} (hx : ev F x = some (u64v a)) (hy : ev F y = some (.int k (s : Int))) : Yld P (.binOp .shl t x y t') ty F M L (u64v (shl64 a s)) := by
 have h := y_shl (P := P) (M := M) (L := L) (t := t) (t' := t') (ty := ty) hx hy (by omega)
 have e : IntKind.u64.wrap ((a.toNat : Int) * 2 ^ (min (s : Int).toNat IntKind.u64.bits)) = ((shl64 a s).toNat : Int) := by
  rw [wrapU64, shl64, UInt64.toNat_ofNat']
  have hb : IntKind.u64.bits = 64 := rfl
  rw [hb, Int.toNat_natCast]
  rcases Nat.lt_or_ge s 64 with hs | hs
  ·
   rw [Nat.min_eq_left (by omega)]; simp
  rw [Nat.min_eq_right hs]
  obtain ⟨d, rfl⟩ : ∃ d, s = 64 + d := ⟨s - 64, by omega⟩
  rw [Nat.pow_add]
  have e1 : a.toNat * (2 ^ 64 * 2 ^ d) = 2 ^ 64 * (a.toNat * 2 ^ d) := by rw [Nat.mul_left_comm]
  rw [e1, Nat.mul_mod_right]
  omega
 rwa [e] at h
theorem y_shr64 {k : IntKind} {s : Nat} (hx : ev F x = some (u64v a)) (hy : ev F y = some (.int k (s : Int))) : Yld P (.binOp .shr t x y t') ty F M L (u64v (shr64 a s)) := by
 have h := y_shr (P := P) (M := M) (L := L) (t := t) (t' := t') (ty := ty) hx hy (by omega)
 have e : Int.fdiv (a.toNat : Int) (2 ^ (min (s : Int).toNat IntKind.u64.bits)) = ((shr64 a s).toNat : Int) := by
  have hb : IntKind.u64.bits = 64 := rfl
  have ha := a.toNat_lt
  rw [shr64, UInt64.toNat_ofNat', hb, Int.toNat_natCast, Nat.mod_eq_of_lt (Nat.lt_of_le_of_lt (Nat.div_le_self _ _) (by omega))]
  rw [Int.fdiv_eq_ediv_of_nonneg _ (by have := Int.pow_nonneg (n := 2) (m := min s 64) (by omega); omega)]
  rcases Nat.lt_or_ge s 64 with hs | hs
  ·
   rw [Nat.min_eq_left (by omega)]; simp
  rw [Nat.min_eq_right hs]
  have h1 : a.toNat / 2 ^ s = 0 := Nat.div_eq_of_lt (Nat.lt_of_lt_of_le ha (Nat.pow_le_pow_right (by omega) hs))
  rw [h1]
  omega
 rwa [e] at h
theorem y_com64 (hx : ev F x = some (u64v a)) : Yld P (.unOp .xor t x) ty F M L (u64v (~~~a)) := by
 have h := y_com (P := P) (M := M) (L := L) (t := t) (ty := ty) hx
 have e : IntKind.u64.wrap ((BitVec.ofInt IntKind.u64.bits (if IntKind.u64.signed then -1 else IntKind.u64.max) ^^^ BitVec.ofInt IntKind.u64.bits (a.toNat : Int)).toNat : Int) = ((~~~a).toNat : Int) := by
  have h1 : BitVec.ofInt 64 (a.toNat : Int) = a.toBitVec := by simp
  have e1 : BitVec.ofInt 64 (if IntKind.u64.signed then -1 else IntKind.u64.max) = BitVec.allOnes 64 := by rfl
  show IntKind.u64.wrap ((BitVec.ofInt 64 (if IntKind.u64.signed then -1 else IntKind.u64.max) ^^^ BitVec.ofInt 64 (a.toNat : Int)).toNat : Int) = _
  rw [e1, h1]
  have e2 : (BitVec.allOnes 64 ^^^ a.toBitVec).toNat = (~~~a).toNat := by rw [BitVec.allOnes_xor]; rfl
  exact e2 ▸ backU64 (~~~a)
 rwa [e] at h
theorem y_of64 {z z' : Value} {s s' b0 b' : Nat} {d0 : TypeDesc} {k : IntKind} {v : Int} [ti : TI P t d0 z s b0] [ti' : TI P t' (.int .u64) z' s' b'] (hx : ev F x = some (.int k v)) : Yld P (.convert t t' x) ty F M L (u64v (UInt64.ofInt v)) := by
 have e : IntKind.u64.wrap v = ((UInt64.ofInt v).toNat : Int) := by rw [wrapU64]; show _ = ((UInt64.ofNat (v % 18446744073709551616).toNat).toNat : Int); rw [UInt64.toNat_ofNat']; have := Int.emod_nonneg v (show (18446744073709551616 : Int) ≠ 0 by omega); have := Int.emod_lt_of_pos v (show (0 : Int) < 18446744073709551616 by omega); omega
 exact y_convE hx e
end
theorem y_u8u64 {P : Program} {ty : TypeId} {F : Fr} {M : Mem} {L : Own} {x : Operand} {t t' : TypeId} {z z' : Value} {s s' b0 b' : Nat} {d0 : TypeDesc} {c : UInt8} [ti : TI P t d0 z s b0] [ti' : TI P t' (.int .u64) z' s' b'] (hx : ev F x = some (u8v c)) : Yld P (.convert t t' x) ty F M L (u64v c.toUInt64) := y_convE hx (by
 have := c.toNat_lt; rw [wrapU64, UInt8.toNat_toUInt64]; omega)
theorem y_u32u64 {P : Program} {ty : TypeId} {F : Fr} {M : Mem} {L : Own} {x : Operand} {t t' : TypeId} {z z' : Value} {s s' b0 b' : Nat} {d0 : TypeDesc} {c : UInt32} [ti : TI P t d0 z s b0] [ti' : TI P t' (.int .u64) z' s' b'] (hx : ev F x = some (u32v c)) : Yld P (.convert t t' x) ty F M L (u64v c.toUInt64) := y_convE hx (by
 have := c.toNat_lt; rw [wrapU64, UInt32.toNat_toUInt64]; omega)
theorem y_u64u8 {P : Program} {ty : TypeId} {F : Fr} {M : Mem} {L : Own} {x : Operand} {t t' : TypeId} {z z' : Value} {s s' b0 b' : Nat} {d0 : TypeDesc} {c : UInt64} [ti : TI P t d0 z s b0] [ti' : TI P t' (.int .u8) z' s' b'] (hx : ev F x = some (u64v c)) : Yld P (.convert t t' x) ty F M L (u8v c.toUInt8) := y_convE hx (by
 rw [wrapU8, UInt64.toNat_toUInt8]; omega)
theorem y_u64u32 {P : Program} {ty : TypeId} {F : Fr} {M : Mem} {L : Own} {x : Operand} {t t' : TypeId} {z z' : Value} {s s' b0 b' : Nat} {d0 : TypeDesc} {c : UInt64} [ti : TI P t d0 z s b0] [ti' : TI P t' (.int .u32) z' s' b'] (hx : ev F x = some (u64v c)) : Yld P (.convert t t' x) ty F M L (u32v c.toUInt32) := y_convE hx (by
 rw [wrapU32, UInt64.toNat_toUInt32]; omega)
section
variable {P : Program} {ty : TypeId} {F : Fr} {M : Mem} {L : Own} {x y : Operand} {t t' : TypeId} {a b : Int}
theorem y_addN64 (hx : ev F x = some (.int .u64 a)) (hy : ev F y = some (.int .u64 b)) (h : 0 ≤ a + b ∧ a + b ≤ 18446744073709551615) : Yld P (.binOp .add t x y t') ty F M L (.int .u64 (a + b)) := by
 have h1 := y_add (P := P) (M := M) (L := L) (t := t) (t' := t') (ty := ty) hx hy
 have e : IntKind.u64.wrap (a + b) = a + b := by rw [wrapU64]; generalize a + b = q at h; omega
 rwa [e] at h1
theorem y_convN64 {z z' : Value} {s s' b0 b' : Nat} {d0 : TypeDesc} {k : IntKind} [ti : TI P t d0 z s b0] [ti' : TI P t' (.int .u64) z' s' b'] (hx : ev F x = some (.int k a)) (h : 0 ≤ a ∧ a ≤ 18446744073709551615) : Yld P (.convert t t' x) ty F M L (.int .u64 a) := y_convE hx (by rw [wrapU64]; omega)
theorem y_addN32 (hx : ev F x = some (.int .u32 a)) (hy : ev F y = some (.int .u32 b)) (h : 0 ≤ a + b ∧ a + b ≤ 4294967295) : Yld P (.binOp .add t x y t') ty F M L (.int .u32 (a + b)) := by
 have h1 := y_add (P := P) (M := M) (L := L) (t := t) (t' := t') (ty := ty) hx hy
 have e : IntKind.u32.wrap (a + b) = a + b := by rw [wrapU32]; generalize a + b = q at h; omega
 rwa [e] at h1
theorem y_quoN32 (hx : ev F x = some (.int .u32 a)) (hy : ev F y = some (.int .u32 b)) (h : 0 ≤ a ∧ 0 < b ∧ a ≤ 4294967295) : Yld P (.binOp .quo t x y t') ty F M L (.int .u32 (a / b)) := by
 have h1 := y_quo (P := P) (M := M) (L := L) (t := t) (t' := t') (ty := ty) hx hy (by omega)
 have h2 : a / b ≤ a := Int.ediv_le_self _ h.1
 have h3 : 0 ≤ a / b := Int.ediv_nonneg h.1 (by omega)
 have e : IntKind.u32.wrap (a / b) = a / b := by rw [wrapU32]; generalize a / b = q at h2 h3; omega
 rwa [Int.tdiv_eq_ediv_of_nonneg h.1, e] at h1
theorem y_convN32 {z z' : Value} {s s' b0 b' : Nat} {d0 : TypeDesc} {k : IntKind} [ti : TI P t d0 z s b0] [ti' : TI P t' (.int .u32) z' s' b'] (hx : ev F x = some (.int k a)) (h : 0 ≤ a ∧ a ≤ 4294967295) : Yld P (.convert t t' x) ty F M L (.int .u32 a) := y_convE hx (by rw [wrapU32]; omega)
theorem y_addN8 (hx : ev F x = some (.int .u8 a)) (hy : ev F y = some (.int .u8 b)) (h : 0 ≤ a + b ∧ a + b ≤ 255) : Yld P (.binOp .add t x y t') ty F M L (.int .u8 (a + b)) := by
 have h1 := y_add (P := P) (M := M) (L := L) (t := t) (t' := t') (ty := ty) hx hy
 have e : IntKind.u8.wrap (a + b) = a + b := by rw [wrapU8]; generalize a + b = q at h; omega
 rwa [e] at h1
theorem y_convN8 {z z' : Value} {s s' b0 b' : Nat} {d0 : TypeDesc} {k : IntKind} [ti : TI P t d0 z s b0] [ti' : TI P t' (.int .u8) z' s' b'] (hx : ev F x = some (.int k a)) (h : 0 ≤ a ∧ a ≤ 255) : Yld P (.convert t t' x) ty F M L (.int .u8 a) := y_convE hx (by rw [wrapU8]; omega)
end
theorem sl0 {b o m s : Nat} : sl (some (⟨b, o, none⟩ : Addr)) 0 m s = some ⟨b, o, none⟩ := by unfold sl; split <;> simp [add_plain]
theorem sl_pos {b o k m s : Nat} (h : k < m) : sl (some (⟨b, o, none⟩ : Addr)) k m s = some ⟨b, o + k * s, none⟩ := by unfold sl; rw [if_neg (by omega)]; simp [add_plain]
end Go.Eng
namespace Go.Eng
instance (priority := 850) {E L0 L' L1 : Own} [h : SelE L' E L1] [k : Keeps L0 L'] : Keeps (E ++ L0) L' := ⟨fun p hp => by
 rcases List.mem_append.1 hp with hp | hp
 ·
  exact h.perm.mem_iff.2 (List.mem_append_left _ hp)
 exact k.mem p hp⟩
theorem y_buildArr {P : Program} {ty : TypeId} {F : Fr} {M : Mem} {L : Own} {t e : TypeId} {m : Nat} {parts : List (Nat × Operand)} {z cells : List Value} {z' : Value} {s b0 s' b' : Nat} {de : TypeDesc} [ti : TI P t (.array m e) (.agg z.toArray) s b0] [te : TI P e de z' s' b'] {vs : List (Nat × Value)} (hp : evps F parts = some vs)
  [hf : FillTo (fun i => some (i * s', s')) z vs cells] :
  Yld P (.build t parts.toArray) ty F M L (.agg cells.toArray) := fun w ρ hs hρ => by
 obtain ⟨j, hj, hz, _, _⟩ := ti.parts
 obtain ⟨j', hj', _, hjs, _⟩ := te.parts
 subst hjs
 have h1 : (zeroValue t).run P w = .ok (.agg z.toArray) w := by simp [zeroValue, typeInfo, hj, hz]
 have h2 := evps_map hρ _ _ hp
 have hf := hf.fill
 simp only [execOp, Instr.build, Sem.run_bind, h1, Result.andThen_ok, run_underlying ti.und, Sem.run_pure, List.map_toArray, h2, Value.cells, run_size hj', hf]
theorem copy_whole {c cs : List Value} (h : c.length = cs.length) : c.take 0 ++ (cs ++ c.drop (0 + cs.length)) = cs := by
 rw [List.take_zero, List.nil_append, Nat.zero_add, List.drop_of_length_le (by omega), List.append_nil]
theorem CellsN.whole {M : Mem} {L : Own} {b n : Nat} {c : List Value} {T : TypeId} {fr : Nat × Nat} (hh : Has L b (.cells c.toArray T fr)) (hl : c.length = n) : CellsN M L ⟨b, 0, none⟩ n c :=
 ⟨fun w hw j v hj => by rw [add_plain, Nat.zero_add]; exact cell_of (hw.own _ hh.mem) (by simpa using hj), hl⟩
theorem CellsN.wholeRo {M : Mem} {L : Own} {b n : Nat} {c : List Value} {T : TypeId} {fr : Nat × Nat} (hM : M b = some (.cells c.toArray T fr)) (hl : c.length = n) : CellsN M L ⟨b, 0, none⟩ n c :=
 ⟨fun w hw j v hj => by rw [add_plain, Nat.zero_add]; exact cell_of (hw.ro _ _ hM) (by simpa using hj), hl⟩
theorem PutAt.whole {c cs : List Value} (h : c.length = cs.length) : PutAt c 0 cs cs := ⟨by rw [List.take_zero, List.nil_append, Nat.zero_add, List.drop_of_length_le (by omega), List.append_nil], by omega⟩
theorem ofInt32 (n : Nat) : UInt32.ofInt (n : Int) = UInt32.ofNat n := by
 apply UInt32.toNat_inj.1
 show (UInt32.ofNat ((n : Int) % 4294967296).toNat).toNat = _
 rw [UInt32.toNat_ofNat', UInt32.toNat_ofNat']
 omega
theorem ofInt64 (n : Nat) : UInt64.ofInt (n : Int) = UInt64.ofNat n := by
 apply UInt64.toNat_inj.1
 show (UInt64.ofNat ((n : Int) % 18446744073709551616).toNat).toNat = _
 rw [UInt64.toNat_ofNat', UInt64.toNat_ofNat']
 omega
theorem get_u32 (w : List UInt32) (rest : List Value) (i : Nat) (h : i < w.length) : (w.map u32v ++ rest)[i]? = some (u32v (w.getD i 0)) := by
 rw [List.getElem?_append_left (by simpa using h), List.getElem?_map, List.getD_eq_getElem?_getD, List.getElem?_eq_getElem h]
 rfl
theorem set_u32 (w : List UInt32) (m : Nat) (v : UInt32) (h : w.length < m) : (w.map u32v ++ List.replicate (m - w.length) (u32v 0)).set w.length (u32v v) = (w ++ [v]).map u32v ++ List.replicate (m - (w.length + 1)) (u32v 0) := by
 obtain ⟨d, rfl⟩ : ∃ d, m = w.length + 1 + d := ⟨m - (w.length + 1), by omega⟩
 rw [show w.length + 1 + d - w.length = d + 1 by omega, show w.length + 1 + d - (w.length + 1) = d by omega, List.replicate_succ, List.set_append_right _ _ (by simp)]
 simp
theorem get_u32' (w : List UInt32) (i : Nat) (h : i < w.length) : (w.map u32v)[i]? = some (u32v (w.getD i 0)) := by
 have := get_u32 w [] i h
 rwa [List.append_nil] at this
theorem u32_one (w : List UInt32) : (w.map u32v).all one = true := by simp [one, Value.oneCell']
section
variable {P : Program} {n : Nat} {Q : Post} {F : Fr} {D : List Deferred} {G : World} {M M0 : Mem} {L L0 : Own} {ops : Array Oper} {τ f : Nat} {X : Array Bool}
theorem to_many (l : List Nat) (hr : Region.ready .any ops X = l) (h : ∀ i ∈ l, wpTwo P n ops τ M0 L0 f X Q F D G M L i) (h0 : l ≠ []) : TO P n ops τ M0 L0 (f + 1) X Q F D G M L := fun hok hkp w a hw ha hcl hs => by
 refine ⟨fun h1 => absurd (hr.symm.trans h1) h0, fun k hk => ?_⟩
 have hk' := hk
 rw [hr] at hk'
 exact h k hk' hok hkp w a hw ha hcl hs hk
theorem to_three (i j k : Nat) (hr : Region.ready .any ops X = [i, j, k]) (h1 : wpTwo P n ops τ M0 L0 f X Q F D G M L i) (h2 : wpTwo P n ops τ M0 L0 f X Q F D G M L j) (h3 : wpTwo P n ops τ M0 L0 f X Q F D G M L k) : TO P n ops τ M0 L0 (f + 1) X Q F D G M L :=
 to_many [i, j, k] hr (fun x hx => by
  simp only [List.mem_cons, List.not_mem_nil, or_false] at hx
  rcases hx with rfl | rfl | rfl
  ·
   exact h1
  ·
   exact h2
  exact h3) (by simp)
theorem e_convMark {t e : TypeId} {x : Operand} {z z2 : Value} {s b0 s2 b2 : Nat} {d : Option Tmp} {ty : TypeId} {K : Fr → List Deferred → Mem → Own → Prop} [ti : TI P t (.slice e) z s b0] [te : TI P e (.int .u8) z2 s2 b2] {b nn c : Nat} {cs : Array Value} {T : TypeId} {L' : Own}
  (hx : ev F x = some (.slice (some ⟨b, 0, none⟩) nn c)) (hs : Sel L b (.cells cs T (0, 0)) L') (h : ∀ M' fr, Le M M' → M' b = some (.cells cs T fr) → K (putF d (.slice (some ⟨b, 0, none⟩) nn c) F) D M' L') :
  Tr P n d (.convert t t x) ty Q F D G M L K := tr_value (fun c h => by cases h) fun w ρ hw hρ => by
 have hw1 := hw.perm hs.perm
 have hb := (hw1.own _ List.mem_cons_self).1
 have hst : St G M ((b, Obj.cells cs T (cs.size, cs.size + 1)) :: L') (w.freeze ⟨b, cs.size, none⟩ 1) := by
  refine hw1.set rfl rfl rfl ?_ (fun i hi => ?_)
  ·
   show (w.heap.modify b _)[b]? = _
   rw [Array.getElem?_modify, if_pos rfl, hb]
   rfl
  show (w.heap.modify b _)[i]? = _
  rw [Array.getElem?_modify, if_neg (Ne.symm hi)]
 obtain ⟨k1, k2, k3⟩ := hst.publish
 have hsh : w.shape? b = some (T, cs.size) := by simp [World.shape?, hb]
 refine ⟨.slice (some ⟨b, 0, none⟩) nn c, w.freeze ⟨b, cs.size, none⟩ 1, _, L', ?_, k1, h _ _ k2 k3⟩
 have hr : (convert t t (.slice (some ⟨b, 0, none⟩) nn c)).run P w = .ok (.slice (some ⟨b, 0, none⟩) nn c) (w.freeze ⟨b, cs.size, none⟩ 1) := by
  simp [convert, run_underlying ti.und, run_underlying te.und, markStringish, hsh]
 simp only [execOp, hρ _ _ hx, Sem.run_bind, hr, Result.andThen_ok, Sem.run_pure]
theorem Con.postP {fid : FuncId} {args : Array Value} {K K' : Value → Mem → Own → Prop} {Kp Kp' : List PanicEntry → Mem → Own → Prop} (h : Con P fid args G M L K Kp)
  (hk : ∀ v M' L1, Le M M' → K v M' L1 → ∃ L2, DropTo L1 L2 ∧ K' v M' L2) (hkp : ∀ c M' L1, Le M M' → Kp c M' L1 → ∃ L2, DropTo L1 L2 ∧ Kp' c M' L2) : Con P fid args G M L K' Kp' :=
 ⟨h.enter, fun w hw => (h.calls w hw).mono fun e w' he => by
  cases e with
  | returned v => obtain ⟨M', L1, a, b, c⟩ := he; obtain ⟨L2, d, e⟩ := hk v M' L1 a c; exact ⟨M', L2, a, b.dropTo, e⟩
  | panicked v => obtain ⟨M', L1, a, b, c⟩ := he; obtain ⟨L2, d, e⟩ := hkp v M' L1 a c; exact ⟨M', L2, a, b.dropTo, e⟩
  | outgrown => exact he⟩
theorem TP.retA {ch : List PanicEntry} {Kp : List PanicEntry → Mem → Own → Prop} (e : Q.pn = fun c a w => a.defers = [] ∧ ∃ M' L', Le M0 M' ∧ St G M' L' w ∧ Kp c M' L') (hle : Le M0 M) (h : Kp ch M L) : TP n Q ch F [] G M L := fun w a hw ha => by
 rw [e]; exact ⟨ha.defers, M, L, hle, hw, h⟩
theorem TP.dropTo {c : List PanicEntry} (T' : Own) (hd : DropTo L T') (h : TP n Q c F D G M T') : TP n Q c F D G M L := fun w a hw ha => h w a hw.dropTo ha
theorem x_meet {a b : Code} (I : Fr → List Deferred → Mem → Own → Prop)
  (hb : ∀ F' D' M' L', I F' D' M' L' → T P n b Q F' D' G M' L') (ha : (∀ F' D' M' L', I F' D' M' L' → T P n b Q F' D' G M' L') → T P n a (thenQ P n b Q) F D G M L) : T P n a (thenQ P n b Q) F D G M L := ha hb
end
end Go.Eng
namespace Go.Eng
section
variable {P : Program} {ty : TypeId} {F : Fr} {M : Mem} {L : Own} {x y : Operand} {t t' : TypeId}
def EqF (P : Program) (fs : List Field) (xs ys : List Value) (r : Prop) [Decidable r] : Prop := ∀ (d : Nat) w, (Op.eqFields (d + 1) xs.toArray ys.toArray fs).run P w = .ok (decide r) w
theorem eqF_nil {xs ys : List Value} : EqF P [] xs ys True := fun d w => by simp [Op.eqFields]
theorem run_part {t : TypeId} {d : TypeDesc} {z : Value} {s b : Nat} [ti : TI P t d z s b] (ha : aggD d = false) {cs : List Value} {o : Nat} {v : Value} (h : cs[o]? = some v) (w : World) : (part t cs.toArray o).run P w = .ok v w := by
 simp [part, run_isAgg ti.und, ha, h]
theorem eqF_int {f : Field} {fs : List Field} {k : IntKind} {z : Value} {s b0 : Nat} [ti : TI P f.type (.int k) z s b0] {xs ys : List Value} {a b : Int} {r : Prop} [Decidable r] (hn : f.name ≠ "_") (hx : xs[f.offset]? = some (.int k a)) (hy : ys[f.offset]? = some (.int k b)) (h : EqF P fs xs ys r) :
  EqF P (f :: fs) xs ys (a = b ∧ r) := fun d w => by
 simp only [Op.eqFields, if_pos hn, Sem.run_bind, run_part (d := .int k) rfl hx, run_part (d := .int k) rfl hy, Result.andThen_ok, run_equalIn_int w d f.type k k a b ti.und]
 by_cases hab : a = b
 ·
  subst hab
  simp [h d w]
 simp [hab]
theorem eqF_bool {f : Field} {fs : List Field} {z : Value} {s b0 : Nat} [ti : TI P f.type .bool z s b0] {xs ys : List Value} {a b : Bool} {r : Prop} [Decidable r] (hn : f.name ≠ "_") (hx : xs[f.offset]? = some (.bool a)) (hy : ys[f.offset]? = some (.bool b)) (h : EqF P fs xs ys r) :
  EqF P (f :: fs) xs ys (a = b ∧ r) := fun d w => by
 simp only [Op.eqFields, if_pos hn, Sem.run_bind, run_part (d := .bool) rfl hx, run_part (d := .bool) rfl hy, Result.andThen_ok, run_equalIn_bool' w d f.type a b ti.und]
 by_cases hab : a = b
 ·
  subst hab
  simp [h d w]
 simp [hab]
structure EqS (P : Program) (t : TypeId) (xs ys : List Value) (r : Prop) [Decidable r] : Prop where
 g : P.eqGuardType P.depth t = false
 run : ∀ w, (Op.equalIn 10000 t (.agg xs.toArray) (.agg ys.toArray)).run P w = .ok (decide r) w
theorem eqS_of {xs ys : List Value} {r : Prop} [Decidable r] (fs : Array Field) (hu : P.underlying t = some (.struct fs)) (hp : P.stoodInHeld t = false) (hg : P.eqGuardType P.depth t = false) (h : EqF P fs.toList xs ys r) : EqS P t xs ys r := by
 have hf : P.fieldsOf t = fs := by simp [Program.fieldsOf, hu]
 refine ⟨hg, fun w => ?_⟩
 rw [run_equalIn_struct w 9999 t xs.toArray ys.toArray (by rw [hf]; exact hu) hp, hf]
 exact h 9998 w
theorem y_eqlS {xs ys : List Value} {r : Prop} [Decidable r] (hx : ev F x = some (.agg xs.toArray)) (hy : ev F y = some (.agg ys.toArray)) (h : EqS P t xs ys r) : Yld P (.binOp .eql t x y t') ty F M L (.bool (decide r)) := fun w ρ hs hρ => by
 have hr : (binOp .eql t (.agg xs.toArray) (.agg ys.toArray)).run P w = .ok (.bool (decide r)) w := by rw [run_eql_struct, h.run w]; rfl
 simp only [execOp, hρ _ _ hx, hρ _ _ hy, Sem.run_bind, run_eqGuard_agg w .eql t x y _ _ h.g, Result.andThen_ok, hr, Sem.run_pure]
end
section
variable {P : Program} {F : Fr} {G : World} {M : Mem} {L L' : Own}
theorem rv3 {fn : Func} {r r' r'' : ResultVar} {v v' v'' : Value} (hr : fn.results = #[r, r', r'']) (h : RC P F M L r v) (h' : RC P F M L r' v') (h'' : RC P F M L r'' v'') : RV P fn F M L (.tuple #[v, v', v'']) := fun w tmps hs ht => by
 have h1 := h w tmps hs ht
 have h2 := h' w tmps hs ht
 have h3 := h'' w tmps hs ht
 simp only [results, hr, List.mapM_toArray, List.mapM_cons, List.mapM_nil, Sem.run_bind, Sem.run_map]
 cases r <;> cases r' <;> cases r'' <;> simp_all [Sem.run_bind]
theorem Con.bring {f : FuncId} {args : Array Value} {K : Value → Mem → Own → Prop} {Kp : List PanicEntry → Mem → Own → Prop} (b : Nat) {o : Obj} (hs : Sel L b o L') (h : Con P f args G M ((b, o) :: L') K Kp) : Con P f args G M L K Kp := h.perm hs.perm
end
end Go.Eng
namespace Go.Eng
open Go.Region (ready waitsFor)
def pathB (ops : Array Oper) : Nat → List Nat → Nat → Bool
 | τ, [], i => waitsFor .any ops τ i
 | τ, j :: js, i => waitsFor .any ops τ j && pathB ops j js i
theorem Cl.path {ops : Array Oper} {X : Array Bool} (h : Cl ops X) {i : Nat} (hx : X.getD i false = false) : ∀ (js : List Nat) (τ : Nat), pathB ops τ js i = true → X.getD τ false = false
 | [], τ, hp => h.back hp hx
 | j :: js, τ, hp => by
  simp only [pathB, Bool.and_eq_true] at hp
  exact h.back hp.1 (h.path hx js j hp.2)
section
variable {P : Program} {n : Nat} {Q : Post} {F : Fr} {D : List Deferred} {G : World} {M M0 : Mem} {L L0 : Own} {ops : Array Oper} {τ f : Nat} {X : Array Bool}
theorem to_yp (i : Nat) (js : List Nat) {d : Tmp} {op : Op} {ty : TypeId} {pos : String} {aft : Array Edge} {g : Option (Nat × Bool)} {v : Value} (hi : ops[i]? = some ⟨some d, op, ty, pos, aft, g⟩)
  (hc : (Region.noSelect ops && pathB ops τ js i && !Nat.beq i τ && Region.free .any ops X i && (ready .any ops X).contains i) = true)
  (hg : want ops F g = some true) (hy : Yld P op ty F M0 L0 v)
  (h : TO P n ops τ M0 L0 f (X.setIfInBounds i true) Q ((d, v) :: F) D G M L) : TO P n ops τ M0 L0 (f + 1) X Q F D G M L := fun hok hkp w a hw ha hcl hs => by
 simp only [Bool.and_eq_true, Bool.not_eq_true'] at hc
 obtain ⟨⟨⟨⟨c1, c2⟩, c3⟩, c4⟩, c5⟩ := hc
 have c3 : i ≠ τ := Nat.ne_of_beq_eq_false c3
 have hr : i ∈ ready .any ops X := by simpa using c5
 have hd : d < n := by have := all_get hok hi; simpa [okOp, Nat.blt_eq] using this
 have hy' : YieldsS P ops Q.ro (Sees M0 L0) ⟨some d, op, ty, pos, aft, g⟩ v a := .inl ⟨want_wanted (o := ⟨some d, op, ty, pos, aft, g⟩) hg ha, fun w' hw' => by
  rw [Oper.semAt_eq _ _ _ (hy.notDefer hw' (ρ := a.eval) (fun x u hx => ha.eval hx))]
  exact hy w' a.eval hw' (fun x u hx => ha.eval hx)⟩
 refine wpAnyX_first hi (Region.noSelect_spec c1) (fun c a' w hq => Q.ins c a' d v w (kp_get hkp hi) hq) c3 (fun X w h1 h2 h3 => h3 (h1.path h2 js τ c2)) f X a w hcl (Region.free_spec hi c4) hr hy' hs ?_
 exact h hok hkp w _ hw (ha.put hd v) (hcl.set hr) (fun hh => hs ((hd_ne c3).1 hh))
end
end Go.Eng
namespace Go.Proofs.YtplkoemjffplcaaGreatDoor
open Go Go.Eng
theorem cutLeft {a b : List Value} {n : Nat} (h : a.length = n) : CutAt (a ++ b) 0 n a := ⟨fun j v hj => by
 have hlt : j < a.length := by
  rcases Nat.lt_or_ge j a.length with h1 | h1
  ·
   exact h1
  rw [List.getElem?_eq_none h1] at hj; cases hj
 rw [Nat.zero_add, List.getElem?_append_left hlt]; exact hj, h⟩
theorem putLeft {a b cs : List Value} (h : a.length = cs.length) : PutAt (a ++ b) 0 cs (cs ++ b) := ⟨by
 rw [List.take_zero, List.nil_append, Nat.zero_add, ← h, List.drop_left], by rw [List.length_append]; omega⟩
theorem putRight {a b cs b' : List Value} {n : Nat} (h : a.length = n) (hp : PutAt b 0 cs b') : PutAt (a ++ b) n cs (a ++ b') := by
 subst h
 have h1 := hp.put
 have h2 := hp.le
 rw [List.take_zero, List.nil_append, Nat.zero_add] at h1
 refine ⟨?_, by rw [List.length_append]; omega⟩
 rw [h1, List.take_left, List.drop_append, show a.drop (a.length + cs.length) = [] from List.drop_of_length_le (by omega), Nat.add_sub_cancel_left, List.nil_append]
theorem getRight {a b : List Value} {n i : Nat} (h : a.length = n) : (a ++ b)[n + i]? = b[i]? := by
 subst h; rw [List.getElem?_append_right (by omega), Nat.add_sub_cancel_left]
theorem get_mid {pre slack : List Value} {bs : List UInt8} {i : Nat} (h : i < bs.length) : (pre ++ (bs.map bv ++ slack))[pre.length + i]? = some (.int .u8 ((bs.getD i 0).toNat : Int)) := by
 rw [List.getElem?_append_right (by omega), Nat.add_sub_cancel_left, List.getElem?_append_left (by simpa using h), List.getElem?_map, List.getD_eq_getElem?_getD, List.getElem?_eq_getElem h]
 rfl
theorem set_zero {a : List UInt8} {m : Nat} {v : UInt8} (h : a.length < m) : (a.map bv ++ List.replicate (m - a.length) (Value.int .u8 0)).set a.length (.int .u8 (v.toNat : Int)) = (a ++ [v]).map bv ++ List.replicate (m - (a.length + 1)) (.int .u8 0) := by
 rw [List.set_append_right _ _ (by simp), List.length_map, Nat.sub_self, show m - a.length = (m - (a.length + 1)) + 1 by omega, List.replicate_succ, List.set_cons_zero, List.map_append, List.append_assoc]
 rfl
theorem Bytes.take3 {M : Mem} {A : Option Addr} {n c : Nat} {bs : List UInt8} (h : Bytes M A n c bs) (k m : Nat) (hk : k ≤ n) (h1 : k ≤ m) (h2 : m ≤ c) : Bytes M (sl A 0 m 1) k m (bs.take k) := by
 have := Row.slice h (l := 0) (h := k) (m := m) (by omega) hk h1 h2
 rw [Nat.sub_zero, Nat.sub_zero, Nat.zero_mul, List.drop_zero, Nat.mul_one, List.map_take.symm] at this
 exact this
theorem Bytes.sub3 {M : Mem} {A : Option Addr} {n c : Nat} {bs : List UInt8} (h : Bytes M A n c bs) (l m : Nat) (hk : l ≤ n) (h1 : n ≤ m) (h2 : m ≤ c) : Bytes M (sl A l m 1) (n - l) (m - l) (bs.drop l) := by
 have := Row.slice h (l := l) (h := n) (m := m) hk (Nat.le_refl _) h1 h2
 rw [Nat.mul_one, Nat.mul_one, ← List.map_drop, List.take_of_length_le (by rw [List.length_map, List.length_drop, h.size]; omega)] at this
 exact this
end Go.Proofs.YtplkoemjffplcaaGreatDoor
namespace Go.Eng
open Go.Region
section
variable {P : Program} {n : Nat} {Q : Post} {F : Fr} {D : List Deferred} {G : World} {M : Mem} {L : Own} {ops : Array Oper} {rest : List Oper} {d : Tmp} {x : Operand} {ty : TypeId} {pos : String} {aft : Array Edge} {g : Option (Nat × Bool)} {A : Option Addr} {l c : Nat}
theorem zq {y : Code} (h : T P n y Q F D G M L) : TL P n ops [] (thenQ P n y Q) F D G M L := tl_then h
theorem zr {id : Nat} {l : List Oper} {y : Code} (h : TL P n l.toArray l (thenQ P n y Q) F D G M L) : T P n (.seq (.region id l.toArray false) y) Q F D G M L := x_seq (x_region h)
theorem zr2 {id : Nat} {l : List Oper} {y z : Code} (h : TL P n l.toArray l (thenQ P n y (thenQ P n z Q)) F D G M L) : T P n (.seq (.seq (.region id l.toArray false) y) z) Q F D G M L := x_seq (x_seq (x_region h))
theorem mv0 {v : Value} (hx : ev F x = some v) (h : TL P n ops rest Q ((d, v) :: F) D G M L) (hg : want ops F g = some true := by exact rfl) : TL P n ops (⟨some d, .move x, ty, pos, aft, g⟩ :: rest) Q F D G M L := tl_y hg (y_move hx) h
theorem mvS (hx : ev F x = some (.slice A l c)) (h : TL P n ops rest Q ((d, .slice A l c) :: F) D G M L) (hg : want ops F g = some true := by exact rfl) : TL P n ops (⟨some d, .move x, ty, pos, aft, g⟩ :: rest) Q F D G M L := tl_y hg (y_move hx) h
theorem mvI {k : IntKind} {i : Int} (hx : ev F x = some (.int k i)) (h : TL P n ops rest Q ((d, .int k i) :: F) D G M L) (hg : want ops F g = some true := by exact rfl) : TL P n ops (⟨some d, .move x, ty, pos, aft, g⟩ :: rest) Q F D G M L := tl_y hg (y_move hx) h
theorem mvP {p : Option Addr} (hx : ev F x = some (.pointer p)) (h : TL P n ops rest Q ((d, .pointer p) :: F) D G M L) (hg : want ops F g = some true := by exact rfl) : TL P n ops (⟨some d, .move x, ty, pos, aft, g⟩ :: rest) Q F D G M L := tl_y hg (y_move hx) h
theorem mvB {b : Bool} (hx : ev F x = some (.bool b)) (h : TL P n ops rest Q ((d, .bool b) :: F) D G M L) (hg : want ops F g = some true := by exact rfl) : TL P n ops (⟨some d, .move x, ty, pos, aft, g⟩ :: rest) Q F D G M L := tl_y hg (y_move hx) h
theorem mvT {b : ByteArray} (hx : ev F x = some (.string b)) (h : TL P n ops rest Q ((d, .string b) :: F) D G M L) (hg : want ops F g = some true := by exact rfl) : TL P n ops (⟨some d, .move x, ty, pos, aft, g⟩ :: rest) Q F D G M L := tl_y hg (y_move hx) h
theorem mvU {vs : Array Value} (hx : ev F x = some (.tuple vs)) (h : TL P n ops rest Q ((d, .tuple vs) :: F) D G M L) (hg : want ops F g = some true := by exact rfl) : TL P n ops (⟨some d, .move x, ty, pos, aft, g⟩ :: rest) Q F D G M L := tl_y hg (y_move hx) h
theorem mvF {fn : Fn} {a b : Array Value} (hx : ev F x = some (.func fn a b)) (h : TL P n ops rest Q ((d, .func fn a b) :: F) D G M L) (hg : want ops F g = some true := by exact rfl) : TL P n ops (⟨some d, .move x, ty, pos, aft, g⟩ :: rest) Q F D G M L := tl_y hg (y_move hx) h
theorem as0 {v : Value} (hx : ev F x = some v) (h : TL P n ops rest Q ((d, v) :: F) D G M L) (hg : want ops F g = some true := by exact rfl) : TL P n ops (⟨some d, .assign x, ty, pos, aft, g⟩ :: rest) Q F D G M L := tl_y hg (y_assign hx) h
theorem asS (hx : ev F x = some (.slice A l c)) (h : TL P n ops rest Q ((d, .slice A l c) :: F) D G M L) (hg : want ops F g = some true := by exact rfl) : TL P n ops (⟨some d, .assign x, ty, pos, aft, g⟩ :: rest) Q F D G M L := tl_y hg (y_assign hx) h
theorem asI {k : IntKind} {i : Int} (hx : ev F x = some (.int k i)) (h : TL P n ops rest Q ((d, .int k i) :: F) D G M L) (hg : want ops F g = some true := by exact rfl) : TL P n ops (⟨some d, .assign x, ty, pos, aft, g⟩ :: rest) Q F D G M L := tl_y hg (y_assign hx) h
theorem asP {p : Option Addr} (hx : ev F x = some (.pointer p)) (h : TL P n ops rest Q ((d, .pointer p) :: F) D G M L) (hg : want ops F g = some true := by exact rfl) : TL P n ops (⟨some d, .assign x, ty, pos, aft, g⟩ :: rest) Q F D G M L := tl_y hg (y_assign hx) h
theorem asB {b : Bool} (hx : ev F x = some (.bool b)) (h : TL P n ops rest Q ((d, .bool b) :: F) D G M L) (hg : want ops F g = some true := by exact rfl) : TL P n ops (⟨some d, .assign x, ty, pos, aft, g⟩ :: rest) Q F D G M L := tl_y hg (y_assign hx) h
theorem asT {b : ByteArray} (hx : ev F x = some (.string b)) (h : TL P n ops rest Q ((d, .string b) :: F) D G M L) (hg : want ops F g = some true := by exact rfl) : TL P n ops (⟨some d, .assign x, ty, pos, aft, g⟩ :: rest) Q F D G M L := tl_y hg (y_assign hx) h
theorem asF {fn : Fn} {a b : Array Value} (hx : ev F x = some (.func fn a b)) (h : TL P n ops rest Q ((d, .func fn a b) :: F) D G M L) (hg : want ops F g = some true := by exact rfl) : TL P n ops (⟨some d, .assign x, ty, pos, aft, g⟩ :: rest) Q F D G M L := tl_y hg (y_assign hx) h
theorem zx {vs : List Value} {v : Value} {i : Nat} (hx : ev F x = some (.tuple vs.toArray)) [hv : GetAt vs i v] (h : TL P n ops rest Q ((d, v) :: F) D G M L) (hg : want ops F g = some true := by exact rfl) : TL P n ops (⟨some d, .extract x i, ty, pos, aft, g⟩ :: rest) Q F D G M L := tl_y hg (y_extract hx) h
theorem zc {ad : Addr} (hx : ev F x = some (.pointer (some ad))) (h : TL P n ops rest Q ((d, .pointer (some ad)) :: F) D G M L) (hg : want ops F g = some true := by exact rfl) : TL P n ops (⟨some d, .nilCheck x, ty, pos, aft, g⟩ :: rest) Q F D G M L := tl_y hg (y_nilCheck hx) h
theorem y_ld {t : TypeId} {d' : TypeDesc} {z : Value} {s b0 : Nat} [ti : TI P t d' z s b0] (ha : aggD d' = false) {b i : Nat} {c : List Value} {T : TypeId} {fr : Nat × Nat} {v : Value} (hx : ev F x = some (.pointer (some ⟨b, i, none⟩))) [hh : Has L b (.cells c.toArray T fr)] [hv : GetAt c i v] : Yld P (.load t x) ty F M L v := y_load ha hx (.own hh hv)
theorem y_lg {t : TypeId} {d' : TypeDesc} {z : Value} {s b0 : Nat} [ti : TI P t d' z s b0] (ha : aggD d' = true) {b i : Nat} {c vs : List Value} {T : TypeId} {fr : Nat × Nat} (hx : ev F x = some (.pointer (some ⟨b, i, none⟩))) [hh : Has L b (.cells c.toArray T fr)] [hv : CutAt c i s vs] : Yld P (.load t x) ty F M L (.agg vs.toArray) := y_loadAgg ha hx (.own hh hv)
end
section
variable {P : Program} {n : Nat} {Q : Post} {F : Fr} {D : List Deferred} {G : World} {M : Mem} {L : Own} {d : Option Tmp} {ty : TypeId} {K : Fr → List Deferred → Mem → Own → Prop}
end
section
variable {P : Program} {n : Nat} {Q : Post} {c : Code} {F : Fr} {D : List Deferred} {G : World} {M : Mem} {L : Own} {v1 v2 v3 v4 v5 v6 v7 v8 v9 : Value}
theorem T.s0 (h : T P n c Q [] D G M L) : T P n c Q F D G M L := h.sub .nil
theorem T.s1 (a1 : Nat) (h1 : look F a1 = some v1) (h : T P n c Q [(a1, v1)] D G M L) : T P n c Q F D G M L := h.sub (.cons h1 .nil)
theorem T.s2 (a1 a2 : Nat) (h1 : look F a1 = some v1) (h2 : look F a2 = some v2) (h : T P n c Q [(a1, v1), (a2, v2)] D G M L) : T P n c Q F D G M L := h.sub (.cons h1 (.cons h2 .nil))
theorem T.s3 (a1 a2 a3 : Nat) (h1 : look F a1 = some v1) (h2 : look F a2 = some v2) (h3 : look F a3 = some v3) (h : T P n c Q [(a1, v1), (a2, v2), (a3, v3)] D G M L) : T P n c Q F D G M L := h.sub (.cons h1 (.cons h2 (.cons h3 .nil)))
theorem T.s4 (a1 a2 a3 a4 : Nat) (h1 : look F a1 = some v1) (h2 : look F a2 = some v2) (h3 : look F a3 = some v3) (h4 : look F a4 = some v4) (h : T P n c Q [(a1, v1), (a2, v2), (a3, v3), (a4, v4)] D G M L) : T P n c Q F D G M L := h.sub (.cons h1 (.cons h2 (.cons h3 (.cons h4 .nil))))
theorem T.s5 (a1 a2 a3 a4 a5 : Nat) (h1 : look F a1 = some v1) (h2 : look F a2 = some v2) (h3 : look F a3 = some v3) (h4 : look F a4 = some v4) (h5 : look F a5 = some v5) (h : T P n c Q [(a1, v1), (a2, v2), (a3, v3), (a4, v4), (a5, v5)] D G M L) : T P n c Q F D G M L := h.sub (.cons h1 (.cons h2 (.cons h3 (.cons h4 (.cons h5 .nil)))))
theorem T.s6 (a1 a2 a3 a4 a5 a6 : Nat) (h1 : look F a1 = some v1) (h2 : look F a2 = some v2) (h3 : look F a3 = some v3) (h4 : look F a4 = some v4) (h5 : look F a5 = some v5) (h6 : look F a6 = some v6) (h : T P n c Q [(a1, v1), (a2, v2), (a3, v3), (a4, v4), (a5, v5), (a6, v6)] D G M L) : T P n c Q F D G M L := h.sub (.cons h1 (.cons h2 (.cons h3 (.cons h4 (.cons h5 (.cons h6 .nil))))))
theorem T.s7 (a1 a2 a3 a4 a5 a6 a7 : Nat) (h1 : look F a1 = some v1) (h2 : look F a2 = some v2) (h3 : look F a3 = some v3) (h4 : look F a4 = some v4) (h5 : look F a5 = some v5) (h6 : look F a6 = some v6) (h7 : look F a7 = some v7) (h : T P n c Q [(a1, v1), (a2, v2), (a3, v3), (a4, v4), (a5, v5), (a6, v6), (a7, v7)] D G M L) : T P n c Q F D G M L := h.sub (.cons h1 (.cons h2 (.cons h3 (.cons h4 (.cons h5 (.cons h6 (.cons h7 .nil)))))))
theorem T.s8 (a1 a2 a3 a4 a5 a6 a7 a8 : Nat) (h1 : look F a1 = some v1) (h2 : look F a2 = some v2) (h3 : look F a3 = some v3) (h4 : look F a4 = some v4) (h5 : look F a5 = some v5) (h6 : look F a6 = some v6) (h7 : look F a7 = some v7) (h8 : look F a8 = some v8) (h : T P n c Q [(a1, v1), (a2, v2), (a3, v3), (a4, v4), (a5, v5), (a6, v6), (a7, v7), (a8, v8)] D G M L) : T P n c Q F D G M L := h.sub (.cons h1 (.cons h2 (.cons h3 (.cons h4 (.cons h5 (.cons h6 (.cons h7 (.cons h8 .nil))))))))
end
section
variable {P : Program} {n : Nat} {Q : Post} {F : Fr} {D : List Deferred} {G : World} {M M0 : Mem} {L L0 : Own} {ops : Array Oper} {τ f : Nat} {X : Array Bool} {ty : TypeId} {pos : String} {aft : Array Edge} {g : Option (Nat × Bool)} {v : Value} {op : Op}
theorem zy (i : Nat) {d : Tmp} (hi : ops[i]? = some ⟨some d, op, ty, pos, aft, g⟩) (hg : want ops F g = some true) (hy : Yld P op ty F M0 L0 v) (h : TO P n ops τ M0 L0 f (X.setIfInBounds i true) Q ((d, v) :: F) D G M L)
  (hc : (Region.noSelect ops && tailB ops τ i && !Nat.beq i τ && Region.free .any ops X i && (ready .any ops X).contains i) = true := by kernel_rfl) : TO P n ops τ M0 L0 (f + 1) X Q F D G M L := to_y i hi hc hg hy h
theorem zp (i : Nat) {d : Tmp} (hi : ops[i]? = some ⟨some d, op, ty, pos, aft, g⟩) (hg : want ops F g = some true) (hy : Yld P op ty F (fun _ => none) [] v) (h : TO P n ops τ M0 L0 f (X.setIfInBounds i true) Q ((d, v) :: F) D G M L)
  (hc : (Region.noSelect ops && !Nat.beq i τ && Region.free .any ops X i && (ready .any ops X).contains i) = true := by kernel_rfl) : TO P n ops τ M0 L0 (f + 1) X Q F D G M L := to_p i hi hc hg hy h
theorem zs (i : Nat) {d : Tmp} (hi : ops[i]? = some ⟨some d, op, ty, pos, aft, g⟩) (hg : want ops F g = some false) (h : TO P n ops τ M0 L0 f (X.setIfInBounds i true) Q ((d, undef) :: F) D G M L)
  (hc : (Region.noSelect ops && !Nat.beq i τ && Region.free .any ops X i && (ready .any ops X).contains i) = true := by kernel_rfl) : TO P n ops τ M0 L0 (f + 1) X Q F D G M L := to_skip i hi hc hg h
theorem ze (i : Nat) {d : Option Tmp} (hi : ops[i]? = some ⟨d, op, ty, pos, aft, g⟩) (hg : want ops F g = some true)
  (h : Tr P n d op ty Q F D G M L (fun F' D' M' L' => (Le M0 M' ∧ ∀ p ∈ L0, p ∈ L') ∧ TO P n ops τ M0 L0 f (X.setIfInBounds i true) Q F' D' G M' L')) (hr : ready .any ops X = [i] := by kernel_rfl) : TO P n ops τ M0 L0 (f + 1) X Q F D G M L := to_e i hi hr hg h
theorem zt (i : Nat) {d : Option Tmp} (hi : ops[i]? = some ⟨d, op, ty, pos, aft, g⟩) (hg : want ops F g = some true)
  (h : Tr P n d op ty Q F D G M L (fun F' D' M' L' => TO P n ops τ M0 L0 f (X.setIfInBounds i true) Q F' D' G M' L')) (hr : ready .any ops X = [i] := by kernel_rfl) (hτ : (X.setIfInBounds i true).getD τ false = true := by kernel_rfl) : TO P n ops τ M0 L0 (f + 1) X Q F D G M L := to_t i hi hr hτ hg h
theorem zy1 (i : Nat) {d : Tmp} (hi : ops[i]? = some ⟨some d, op, ty, pos, aft, g⟩) (hg : want ops F g = some true) (hy : Yld P op ty F M L v) (h : TO P n ops τ M0 L0 f (X.setIfInBounds i true) Q ((d, v) :: F) D G M L)
  (hr : ready .any ops X = [i] := by kernel_rfl) : TO P n ops τ M0 L0 (f + 1) X Q F D G M L := to_y1 i hi hr hg hy h
theorem zz (h : TQ Q .normal F D G M L) (hr : ready .any ops X = [] := by kernel_rfl) : TO P n ops τ M0 L0 f X Q F D G M L := to_nil hr h
end
section
universe u
abbrev iI := @inferInstance.{u}
variable {P : Program} {n : Nat} {Q : Post} {F : Fr} {D : List Deferred} {G : World} {M : Mem} {L : Own} {ops : Array Oper} {rest : List Oper} {ty : TypeId} {pos : String} {aft : Array Edge} {g : Option (Nat × Bool)}
theorem zfn {f : FuncId} {fn : Func} {c : Code} {args : List Value} {K : Value → Mem → Own → Prop} {Kp : List PanicEntry → Mem → Own → Prop} (h1 : P.funcs[f]? = some fn) (hb : fn.body = some c) (k : Nat) (hk : fn.ntmps = k) (h : T P k c (retQ P fn G M K Kp) (argsFr 0 args) [] G M L)
  (h2 : (fn.name == "runtime.NumGoroutine") = false := by kernel_rfl) (h3 : okCode fn.ntmps c = true := by kernel_rfl) : Con P f args.toArray G M L K Kp := enter ⟨h1, hb, h2, h3⟩ k hk h
theorem zca {d : Option Tmp} {f : FuncId} {xs : List Operand} {at_ : Array TypeId} {vs : List Value} {K : Value → Mem → Own → Prop} (hxs : evs F xs = some vs) (hs : Con P f vs.toArray G M L K noPanic)
  (h : ∀ v M' L', Le M M' → K v M' L' → TL P n ops rest Q (putF d v F) D G M' L') (hg : want ops F g = some true := by exact rfl) : TL P n ops (⟨d, .call ⟨.value (.func f), xs.toArray, at_⟩, ty, pos, aft, g⟩ :: rest) Q F D G M L := tl_e hg (e_call' hxs hs h)
theorem tFa {x : Operand} {d : Tmp} {i : Nat} {t : TypeId} {b o o' off s : Nat} {a : Bool} [fo : FO P t i off s a] (hx : ev F x = some (.pointer (some ⟨b, o, none⟩))) [ha : AddN o off o'] (h : TL P n ops rest Q ((d, .pointer (some ⟨b, o', none⟩)) :: F) D G M L) (hg : want ops F g = some true := by exact rfl) : TL P n ops (⟨some d, .fieldAddr t x i, ty, pos, aft, g⟩ :: rest) Q F D G M L := tl_y hg (y_fieldAddr hx) h
theorem tPt {d : Tmp} {c a b : Operand} {v : Value} (hc : ev F c = some (.bool true)) (hx : ev F a = some v) (h : TL P n ops rest Q ((d, v) :: F) D G M L) (hg : want ops F g = some true := by exact rfl) : TL P n ops (⟨some d, .pick c a b, ty, pos, aft, g⟩ :: rest) Q F D G M L := tl_y hg (y_pickT hc hx) h
theorem tPf {d : Tmp} {c a b : Operand} {v : Value} (hc : ev F c = some (.bool false)) (hx : ev F b = some v) (h : TL P n ops rest Q ((d, v) :: F) D G M L) (hg : want ops F g = some true := by exact rfl) : TL P n ops (⟨some d, .pick c a b, ty, pos, aft, g⟩ :: rest) Q F D G M L := tl_y hg (y_pickF hc hx) h
theorem tLen {x : Operand} {d : Tmp} {t : TypeId} {e : TypeId} {z : Value} {s b0 : Nat} [ti : TI P t (.slice e) z s b0] {A : Option Addr} {l c : Nat} (hx : ev F x = some (.slice A l c)) (h : TL P n ops rest Q ((d, .int .i64 l) :: F) D G M L) (hg : want ops F g = some true := by exact rfl) : TL P n ops (⟨some d, .call ⟨.builtin .len, #[x], #[t]⟩, ty, pos, aft, g⟩ :: rest) Q F D G M L := tl_y hg (y_len hx) h
theorem tLd {x : Operand} {d : Tmp} {t : TypeId} {d' : TypeDesc} {z : Value} {s b0 : Nat} [ti : TI P t d' z s b0] {b i : Nat} {c : List Value} {T : TypeId} {fr : Nat × Nat} {v : Value} (ha : aggD d' = false) (hx : ev F x = some (.pointer (some ⟨b, i, none⟩))) [hh : Has L b (.cells c.toArray T fr)] [hv : GetAt c i v] (h : TL P n ops rest Q ((d, v) :: F) D G M L) (hg : want ops F g = some true := by exact rfl) : TL P n ops (⟨some d, .load t x, ty, pos, aft, g⟩ :: rest) Q F D G M L := tl_y hg (y_ld ha hx) h
theorem tLg {x : Operand} {d : Tmp} {t : TypeId} {d' : TypeDesc} {z : Value} {s b0 : Nat} [ti : TI P t d' z s b0] {b i : Nat} {c vs : List Value} {T : TypeId} {fr : Nat × Nat} (ha : aggD d' = true) (hx : ev F x = some (.pointer (some ⟨b, i, none⟩))) [hh : Has L b (.cells c.toArray T fr)] [hv : CutAt c i s vs] (h : TL P n ops rest Q ((d, .agg vs.toArray) :: F) D G M L) (hg : want ops F g = some true := by exact rfl) : TL P n ops (⟨some d, .load t x, ty, pos, aft, g⟩ :: rest) Q F D G M L := tl_y hg (y_lg ha hx) h
end
section
variable {F : Fr} {a1 a2 a3 a4 a5 a6 a7 a8 a9 a10 a11 a12 : Nat} {v1 v2 v3 v4 v5 v6 v7 v8 v9 v10 v11 v12 : Value}
theorem cs2 (h1 : look F a1 = some v1) (h2 : look F a2 = some v2) : Sub [(a1, v1), (a2, v2)] F := .cons h1 (.cons h2 .nil)
theorem cs3 (h1 : look F a1 = some v1) (h2 : look F a2 = some v2) (h3 : look F a3 = some v3) : Sub [(a1, v1), (a2, v2), (a3, v3)] F := .cons h1 (.cons h2 (.cons h3 .nil))
theorem cs4 (h1 : look F a1 = some v1) (h2 : look F a2 = some v2) (h3 : look F a3 = some v3) (h4 : look F a4 = some v4) : Sub [(a1, v1), (a2, v2), (a3, v3), (a4, v4)] F := .cons h1 (.cons h2 (.cons h3 (.cons h4 .nil)))
theorem cs5 (h1 : look F a1 = some v1) (h2 : look F a2 = some v2) (h3 : look F a3 = some v3) (h4 : look F a4 = some v4) (h5 : look F a5 = some v5) : Sub [(a1, v1), (a2, v2), (a3, v3), (a4, v4), (a5, v5)] F := .cons h1 (.cons h2 (.cons h3 (.cons h4 (.cons h5 .nil))))
theorem cs6 (h1 : look F a1 = some v1) (h2 : look F a2 = some v2) (h3 : look F a3 = some v3) (h4 : look F a4 = some v4) (h5 : look F a5 = some v5) (h6 : look F a6 = some v6) : Sub [(a1, v1), (a2, v2), (a3, v3), (a4, v4), (a5, v5), (a6, v6)] F := .cons h1 (.cons h2 (.cons h3 (.cons h4 (.cons h5 (.cons h6 .nil)))))
theorem cs7 (h1 : look F a1 = some v1) (h2 : look F a2 = some v2) (h3 : look F a3 = some v3) (h4 : look F a4 = some v4) (h5 : look F a5 = some v5) (h6 : look F a6 = some v6) (h7 : look F a7 = some v7) : Sub [(a1, v1), (a2, v2), (a3, v3), (a4, v4), (a5, v5), (a6, v6), (a7, v7)] F := .cons h1 (.cons h2 (.cons h3 (.cons h4 (.cons h5 (.cons h6 (.cons h7 .nil))))))
theorem cs8 (h1 : look F a1 = some v1) (h2 : look F a2 = some v2) (h3 : look F a3 = some v3) (h4 : look F a4 = some v4) (h5 : look F a5 = some v5) (h6 : look F a6 = some v6) (h7 : look F a7 = some v7) (h8 : look F a8 = some v8) : Sub [(a1, v1), (a2, v2), (a3, v3), (a4, v4), (a5, v5), (a6, v6), (a7, v7), (a8, v8)] F := .cons h1 (.cons h2 (.cons h3 (.cons h4 (.cons h5 (.cons h6 (.cons h7 (.cons h8 .nil)))))))
theorem cs9 (h1 : look F a1 = some v1) (h2 : look F a2 = some v2) (h3 : look F a3 = some v3) (h4 : look F a4 = some v4) (h5 : look F a5 = some v5) (h6 : look F a6 = some v6) (h7 : look F a7 = some v7) (h8 : look F a8 = some v8) (h9 : look F a9 = some v9) : Sub [(a1, v1), (a2, v2), (a3, v3), (a4, v4), (a5, v5), (a6, v6), (a7, v7), (a8, v8), (a9, v9)] F := .cons h1 (.cons h2 (.cons h3 (.cons h4 (.cons h5 (.cons h6 (.cons h7 (.cons h8 (.cons h9 .nil))))))))
theorem cs10 (h1 : look F a1 = some v1) (h2 : look F a2 = some v2) (h3 : look F a3 = some v3) (h4 : look F a4 = some v4) (h5 : look F a5 = some v5) (h6 : look F a6 = some v6) (h7 : look F a7 = some v7) (h8 : look F a8 = some v8) (h9 : look F a9 = some v9) (h10 : look F a10 = some v10) : Sub [(a1, v1), (a2, v2), (a3, v3), (a4, v4), (a5, v5), (a6, v6), (a7, v7), (a8, v8), (a9, v9), (a10, v10)] F := .cons h1 (.cons h2 (.cons h3 (.cons h4 (.cons h5 (.cons h6 (.cons h7 (.cons h8 (.cons h9 (.cons h10 .nil)))))))))
theorem cs12 (h1 : look F a1 = some v1) (h2 : look F a2 = some v2) (h3 : look F a3 = some v3) (h4 : look F a4 = some v4) (h5 : look F a5 = some v5) (h6 : look F a6 = some v6) (h7 : look F a7 = some v7) (h8 : look F a8 = some v8) (h9 : look F a9 = some v9) (h10 : look F a10 = some v10) (h11 : look F a11 = some v11) (h12 : look F a12 = some v12) : Sub [(a1, v1), (a2, v2), (a3, v3), (a4, v4), (a5, v5), (a6, v6), (a7, v7), (a8, v8), (a9, v9), (a10, v10), (a11, v11), (a12, v12)] F := .cons h1 (.cons h2 (.cons h3 (.cons h4 (.cons h5 (.cons h6 (.cons h7 (.cons h8 (.cons h9 (.cons h10 (.cons h11 (.cons h12 .nil)))))))))))
end
section
variable {P : Program} {n : Nat} {Q : Post} {F : Fr} {D : List Deferred} {G : World} {M M0 : Mem} {L L0 : Own} {ops : Array Oper} {τ f : Nat} {X : Array Bool} {ty : TypeId} {pos : String} {aft : Array Edge} {g : Option (Nat × Bool)} {x : Operand} {d : Tmp}
theorem pmS (i : Nat) {A : Option Addr} {l c : Nat} (hi : ops[i]? = some ⟨some d, .move x, ty, pos, aft, g⟩) (hx : ev F x = some (.slice A l c)) (h : TO P n ops τ M0 L0 f (X.setIfInBounds i true) Q ((d, .slice A l c) :: F) D G M L)
  (hc : (Region.noSelect ops && !Nat.beq i τ && Region.free .any ops X i && (ready .any ops X).contains i) = true := by kernel_rfl) (hg : want ops F g = some true := by exact rfl) : TO P n ops τ M0 L0 (f + 1) X Q F D G M L := zp i hi hg (y_move hx) h hc
theorem pmI (i : Nat) {k : IntKind} {j : Int} (hi : ops[i]? = some ⟨some d, .move x, ty, pos, aft, g⟩) (hx : ev F x = some (.int k j)) (h : TO P n ops τ M0 L0 f (X.setIfInBounds i true) Q ((d, .int k j) :: F) D G M L)
  (hc : (Region.noSelect ops && !Nat.beq i τ && Region.free .any ops X i && (ready .any ops X).contains i) = true := by kernel_rfl) (hg : want ops F g = some true := by exact rfl) : TO P n ops τ M0 L0 (f + 1) X Q F D G M L := zp i hi hg (y_move hx) h hc
theorem pmP (i : Nat) {p : Option Addr} (hi : ops[i]? = some ⟨some d, .move x, ty, pos, aft, g⟩) (hx : ev F x = some (.pointer p)) (h : TO P n ops τ M0 L0 f (X.setIfInBounds i true) Q ((d, .pointer p) :: F) D G M L)
  (hc : (Region.noSelect ops && !Nat.beq i τ && Region.free .any ops X i && (ready .any ops X).contains i) = true := by kernel_rfl) (hg : want ops F g = some true := by exact rfl) : TO P n ops τ M0 L0 (f + 1) X Q F D G M L := zp i hi hg (y_move hx) h hc
theorem pmB (i : Nat) {b : Bool} (hi : ops[i]? = some ⟨some d, .move x, ty, pos, aft, g⟩) (hx : ev F x = some (.bool b)) (h : TO P n ops τ M0 L0 f (X.setIfInBounds i true) Q ((d, .bool b) :: F) D G M L)
  (hc : (Region.noSelect ops && !Nat.beq i τ && Region.free .any ops X i && (ready .any ops X).contains i) = true := by kernel_rfl) (hg : want ops F g = some true := by exact rfl) : TO P n ops τ M0 L0 (f + 1) X Q F D G M L := zp i hi hg (y_move hx) h hc
theorem pmU (i : Nat) {vs : Array Value} (hi : ops[i]? = some ⟨some d, .move x, ty, pos, aft, g⟩) (hx : ev F x = some (.tuple vs)) (h : TO P n ops τ M0 L0 f (X.setIfInBounds i true) Q ((d, .tuple vs) :: F) D G M L)
  (hc : (Region.noSelect ops && !Nat.beq i τ && Region.free .any ops X i && (ready .any ops X).contains i) = true := by kernel_rfl) (hg : want ops F g = some true := by exact rfl) : TO P n ops τ M0 L0 (f + 1) X Q F D G M L := zp i hi hg (y_move hx) h hc
theorem pmF (i : Nat) {fn : Fn} {a b : Array Value} (hi : ops[i]? = some ⟨some d, .move x, ty, pos, aft, g⟩) (hx : ev F x = some (.func fn a b)) (h : TO P n ops τ M0 L0 f (X.setIfInBounds i true) Q ((d, .func fn a b) :: F) D G M L)
  (hc : (Region.noSelect ops && !Nat.beq i τ && Region.free .any ops X i && (ready .any ops X).contains i) = true := by kernel_rfl) (hg : want ops F g = some true := by exact rfl) : TO P n ops τ M0 L0 (f + 1) X Q F D G M L := zp i hi hg (y_move hx) h hc
theorem paS (i : Nat) {A : Option Addr} {l c : Nat} (hi : ops[i]? = some ⟨some d, .assign x, ty, pos, aft, g⟩) (hx : ev F x = some (.slice A l c)) (h : TO P n ops τ M0 L0 f (X.setIfInBounds i true) Q ((d, .slice A l c) :: F) D G M L)
  (hc : (Region.noSelect ops && !Nat.beq i τ && Region.free .any ops X i && (ready .any ops X).contains i) = true := by kernel_rfl) (hg : want ops F g = some true := by exact rfl) : TO P n ops τ M0 L0 (f + 1) X Q F D G M L := zp i hi hg (y_assign hx) h hc
theorem paI (i : Nat) {k : IntKind} {j : Int} (hi : ops[i]? = some ⟨some d, .assign x, ty, pos, aft, g⟩) (hx : ev F x = some (.int k j)) (h : TO P n ops τ M0 L0 f (X.setIfInBounds i true) Q ((d, .int k j) :: F) D G M L)
  (hc : (Region.noSelect ops && !Nat.beq i τ && Region.free .any ops X i && (ready .any ops X).contains i) = true := by kernel_rfl) (hg : want ops F g = some true := by exact rfl) : TO P n ops τ M0 L0 (f + 1) X Q F D G M L := zp i hi hg (y_assign hx) h hc
theorem paP (i : Nat) {p : Option Addr} (hi : ops[i]? = some ⟨some d, .assign x, ty, pos, aft, g⟩) (hx : ev F x = some (.pointer p)) (h : TO P n ops τ M0 L0 f (X.setIfInBounds i true) Q ((d, .pointer p) :: F) D G M L)
  (hc : (Region.noSelect ops && !Nat.beq i τ && Region.free .any ops X i && (ready .any ops X).contains i) = true := by kernel_rfl) (hg : want ops F g = some true := by exact rfl) : TO P n ops τ M0 L0 (f + 1) X Q F D G M L := zp i hi hg (y_assign hx) h hc
theorem paB (i : Nat) {b : Bool} (hi : ops[i]? = some ⟨some d, .assign x, ty, pos, aft, g⟩) (hx : ev F x = some (.bool b)) (h : TO P n ops τ M0 L0 f (X.setIfInBounds i true) Q ((d, .bool b) :: F) D G M L)
  (hc : (Region.noSelect ops && !Nat.beq i τ && Region.free .any ops X i && (ready .any ops X).contains i) = true := by kernel_rfl) (hg : want ops F g = some true := by exact rfl) : TO P n ops τ M0 L0 (f + 1) X Q F D G M L := zp i hi hg (y_assign hx) h hc
theorem paT (i : Nat) {b : ByteArray} (hi : ops[i]? = some ⟨some d, .assign x, ty, pos, aft, g⟩) (hx : ev F x = some (.string b)) (h : TO P n ops τ M0 L0 f (X.setIfInBounds i true) Q ((d, .string b) :: F) D G M L)
  (hc : (Region.noSelect ops && !Nat.beq i τ && Region.free .any ops X i && (ready .any ops X).contains i) = true := by kernel_rfl) (hg : want ops F g = some true := by exact rfl) : TO P n ops τ M0 L0 (f + 1) X Q F D G M L := zp i hi hg (y_assign hx) h hc
theorem pFa (i : Nat) {k : Nat} {t : TypeId} {b o o' off s : Nat} {a : Bool} [fo : FO P t k off s a] (hi : ops[i]? = some ⟨some d, .fieldAddr t x k, ty, pos, aft, g⟩) (hx : ev F x = some (.pointer (some ⟨b, o, none⟩))) [ha : AddN o off o'] (h : TO P n ops τ M0 L0 f (X.setIfInBounds i true) Q ((d, .pointer (some ⟨b, o', none⟩)) :: F) D G M L)
  (hc : (Region.noSelect ops && !Nat.beq i τ && Region.free .any ops X i && (ready .any ops X).contains i) = true := by kernel_rfl) (hg : want ops F g = some true := by exact rfl) : TO P n ops τ M0 L0 (f + 1) X Q F D G M L := zp i hi hg (y_fieldAddr hx) h hc
theorem pLd (i : Nat) {t : TypeId} {d' : TypeDesc} {z : Value} {s b0 : Nat} [ti : TI P t d' z s b0] {b k : Nat} {c : List Value} {T : TypeId} {fr : Nat × Nat} {v : Value} (hi : ops[i]? = some ⟨some d, .load t x, ty, pos, aft, g⟩) (ha : aggD d' = false) (hx : ev F x = some (.pointer (some ⟨b, k, none⟩))) [hh : Has L0 b (.cells c.toArray T fr)] [hv : GetAt c k v] (h : TO P n ops τ M0 L0 f (X.setIfInBounds i true) Q ((d, v) :: F) D G M L)
  (hc : (Region.noSelect ops && tailB ops τ i && !Nat.beq i τ && Region.free .any ops X i && (ready .any ops X).contains i) = true := by kernel_rfl) (hg : want ops F g = some true := by exact rfl) : TO P n ops τ M0 L0 (f + 1) X Q F D G M L := zy i hi hg (y_ld ha hx) h hc
theorem kp {Mx : Mem} {Lx : Own} {Y : Prop} [k : Keeps L0 Lx] (h : Y) (hl : Le M0 Mx := by first | exact Le.refl _ | assumption) : (Le M0 Mx ∧ ∀ p ∈ L0, p ∈ Lx) ∧ Y := ⟨⟨hl, k.mem⟩, h⟩
theorem lR {Mx : Mem} : Le Mx Mx := Le.refl _
end
section
variable {P : Program} {n : Nat} {Q : Post} {F : Fr} {D : List Deferred} {G : World} {M : Mem} {L : Own} {d : Option Tmp} {ty : TypeId} {K : Fr → List Deferred → Mem → Own → Prop}
theorem e_sT {t : TypeId} {xa xv : Operand} {d' : TypeDesc} {z : Value} {s b0 : Nat} [ti : TI P t d' z s b0] {b o : Nat} {c c' cs : List Value} {T : TypeId} {v : Value} {L' : Own}
  (ha : ev F xa = some (.pointer (some ⟨b, o, none⟩))) (hv : ev F xv = some v) [tc : CellsOf v cs]
  [hh : Has L b (.cells c.toArray T (0, 0))] [hp : PutAt c o cs c'] [hu : Upd L b (.cells c.toArray T (0, 0)) (.cells c'.toArray T (0, 0)) L']
  (h : K F D M L') (hsz : cs.length = s := by rfl) (h1 : cs.all one = true := by rfl) : Tr P n none (.store t xa xv) ty Q F D G M L K := e_store ha hv hsz h1 hh hp hu h
end
section
variable {P : Program} {n : Nat} {Q : Post} {F : Fr} {D : List Deferred} {G : World} {M : Mem} {L : Own} {ops : Array Oper} {rest : List Oper} {d1 d2 d3 d4 d5 d6 d7 d8 : Tmp} {o1 o2 o3 o4 o5 o6 o7 o8 : Op} {t1 t2 t3 t4 t5 t6 t7 t8 : TypeId} {p1 p2 p3 p4 p5 p6 p7 p8 : String} {a1 a2 a3 a4 a5 a6 a7 a8 : Array Edge} {g1 g2 g3 g4 g5 g6 g7 g8 : Option (Nat × Bool)}
theorem sk2 (h1 : want ops F g1 = some false) (h2 : want ops ((d1, undef) :: F) g2 = some false) (h : TL P n ops rest Q ((d2, undef) :: ((d1, undef) :: F)) D G M L) : TL P n ops (⟨some d1, o1, t1, p1, a1, g1⟩ :: ⟨some d2, o2, t2, p2, a2, g2⟩ :: rest) Q F D G M L := tl_skip h1 (tl_skip h2 h)
theorem sk3 (h1 : want ops F g1 = some false) (h2 : want ops ((d1, undef) :: F) g2 = some false) (h3 : want ops ((d2, undef) :: ((d1, undef) :: F)) g3 = some false) (h : TL P n ops rest Q ((d3, undef) :: ((d2, undef) :: ((d1, undef) :: F))) D G M L) : TL P n ops (⟨some d1, o1, t1, p1, a1, g1⟩ :: ⟨some d2, o2, t2, p2, a2, g2⟩ :: ⟨some d3, o3, t3, p3, a3, g3⟩ :: rest) Q F D G M L := tl_skip h1 (tl_skip h2 (tl_skip h3 h))
theorem sk4 (h1 : want ops F g1 = some false) (h2 : want ops ((d1, undef) :: F) g2 = some false) (h3 : want ops ((d2, undef) :: ((d1, undef) :: F)) g3 = some false) (h4 : want ops ((d3, undef) :: ((d2, undef) :: ((d1, undef) :: F))) g4 = some false) (h : TL P n ops rest Q ((d4, undef) :: ((d3, undef) :: ((d2, undef) :: ((d1, undef) :: F)))) D G M L) : TL P n ops (⟨some d1, o1, t1, p1, a1, g1⟩ :: ⟨some d2, o2, t2, p2, a2, g2⟩ :: ⟨some d3, o3, t3, p3, a3, g3⟩ :: ⟨some d4, o4, t4, p4, a4, g4⟩ :: rest) Q F D G M L := tl_skip h1 (tl_skip h2 (tl_skip h3 (tl_skip h4 h)))
theorem sk5 (h1 : want ops F g1 = some false) (h2 : want ops ((d1, undef) :: F) g2 = some false) (h3 : want ops ((d2, undef) :: ((d1, undef) :: F)) g3 = some false) (h4 : want ops ((d3, undef) :: ((d2, undef) :: ((d1, undef) :: F))) g4 = some false) (h5 : want ops ((d4, undef) :: ((d3, undef) :: ((d2, undef) :: ((d1, undef) :: F)))) g5 = some false) (h : TL P n ops rest Q ((d5, undef) :: ((d4, undef) :: ((d3, undef) :: ((d2, undef) :: ((d1, undef) :: F))))) D G M L) : TL P n ops (⟨some d1, o1, t1, p1, a1, g1⟩ :: ⟨some d2, o2, t2, p2, a2, g2⟩ :: ⟨some d3, o3, t3, p3, a3, g3⟩ :: ⟨some d4, o4, t4, p4, a4, g4⟩ :: ⟨some d5, o5, t5, p5, a5, g5⟩ :: rest) Q F D G M L := tl_skip h1 (tl_skip h2 (tl_skip h3 (tl_skip h4 (tl_skip h5 h))))
theorem sk6 (h1 : want ops F g1 = some false) (h2 : want ops ((d1, undef) :: F) g2 = some false) (h3 : want ops ((d2, undef) :: ((d1, undef) :: F)) g3 = some false) (h4 : want ops ((d3, undef) :: ((d2, undef) :: ((d1, undef) :: F))) g4 = some false) (h5 : want ops ((d4, undef) :: ((d3, undef) :: ((d2, undef) :: ((d1, undef) :: F)))) g5 = some false) (h6 : want ops ((d5, undef) :: ((d4, undef) :: ((d3, undef) :: ((d2, undef) :: ((d1, undef) :: F))))) g6 = some false) (h : TL P n ops rest Q ((d6, undef) :: ((d5, undef) :: ((d4, undef) :: ((d3, undef) :: ((d2, undef) :: ((d1, undef) :: F)))))) D G M L) : TL P n ops (⟨some d1, o1, t1, p1, a1, g1⟩ :: ⟨some d2, o2, t2, p2, a2, g2⟩ :: ⟨some d3, o3, t3, p3, a3, g3⟩ :: ⟨some d4, o4, t4, p4, a4, g4⟩ :: ⟨some d5, o5, t5, p5, a5, g5⟩ :: ⟨some d6, o6, t6, p6, a6, g6⟩ :: rest) Q F D G M L := tl_skip h1 (tl_skip h2 (tl_skip h3 (tl_skip h4 (tl_skip h5 (tl_skip h6 h)))))
theorem sk7 (h1 : want ops F g1 = some false) (h2 : want ops ((d1, undef) :: F) g2 = some false) (h3 : want ops ((d2, undef) :: ((d1, undef) :: F)) g3 = some false) (h4 : want ops ((d3, undef) :: ((d2, undef) :: ((d1, undef) :: F))) g4 = some false) (h5 : want ops ((d4, undef) :: ((d3, undef) :: ((d2, undef) :: ((d1, undef) :: F)))) g5 = some false) (h6 : want ops ((d5, undef) :: ((d4, undef) :: ((d3, undef) :: ((d2, undef) :: ((d1, undef) :: F))))) g6 = some false) (h7 : want ops ((d6, undef) :: ((d5, undef) :: ((d4, undef) :: ((d3, undef) :: ((d2, undef) :: ((d1, undef) :: F)))))) g7 = some false) (h : TL P n ops rest Q ((d7, undef) :: ((d6, undef) :: ((d5, undef) :: ((d4, undef) :: ((d3, undef) :: ((d2, undef) :: ((d1, undef) :: F))))))) D G M L) : TL P n ops (⟨some d1, o1, t1, p1, a1, g1⟩ :: ⟨some d2, o2, t2, p2, a2, g2⟩ :: ⟨some d3, o3, t3, p3, a3, g3⟩ :: ⟨some d4, o4, t4, p4, a4, g4⟩ :: ⟨some d5, o5, t5, p5, a5, g5⟩ :: ⟨some d6, o6, t6, p6, a6, g6⟩ :: ⟨some d7, o7, t7, p7, a7, g7⟩ :: rest) Q F D G M L := tl_skip h1 (tl_skip h2 (tl_skip h3 (tl_skip h4 (tl_skip h5 (tl_skip h6 (tl_skip h7 h))))))
theorem sk8 (h1 : want ops F g1 = some false) (h2 : want ops ((d1, undef) :: F) g2 = some false) (h3 : want ops ((d2, undef) :: ((d1, undef) :: F)) g3 = some false) (h4 : want ops ((d3, undef) :: ((d2, undef) :: ((d1, undef) :: F))) g4 = some false) (h5 : want ops ((d4, undef) :: ((d3, undef) :: ((d2, undef) :: ((d1, undef) :: F)))) g5 = some false) (h6 : want ops ((d5, undef) :: ((d4, undef) :: ((d3, undef) :: ((d2, undef) :: ((d1, undef) :: F))))) g6 = some false) (h7 : want ops ((d6, undef) :: ((d5, undef) :: ((d4, undef) :: ((d3, undef) :: ((d2, undef) :: ((d1, undef) :: F)))))) g7 = some false) (h8 : want ops ((d7, undef) :: ((d6, undef) :: ((d5, undef) :: ((d4, undef) :: ((d3, undef) :: ((d2, undef) :: ((d1, undef) :: F))))))) g8 = some false) (h : TL P n ops rest Q ((d8, undef) :: ((d7, undef) :: ((d6, undef) :: ((d5, undef) :: ((d4, undef) :: ((d3, undef) :: ((d2, undef) :: ((d1, undef) :: F)))))))) D G M L) : TL P n ops (⟨some d1, o1, t1, p1, a1, g1⟩ :: ⟨some d2, o2, t2, p2, a2, g2⟩ :: ⟨some d3, o3, t3, p3, a3, g3⟩ :: ⟨some d4, o4, t4, p4, a4, g4⟩ :: ⟨some d5, o5, t5, p5, a5, g5⟩ :: ⟨some d6, o6, t6, p6, a6, g6⟩ :: ⟨some d7, o7, t7, p7, a7, g7⟩ :: ⟨some d8, o8, t8, p8, a8, g8⟩ :: rest) Q F D G M L := tl_skip h1 (tl_skip h2 (tl_skip h3 (tl_skip h4 (tl_skip h5 (tl_skip h6 (tl_skip h7 (tl_skip h8 h)))))))
end
end Go.Eng
