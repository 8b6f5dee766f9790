/-
The walk engine: numbers of a fixed width.
-/
import Derived.Test.YtbgdjdhbejbhkaaDoorEngM
set_option linter.unusedVariables false
set_option linter.unusedSimpArgs false
namespace Go.Eng
/-! ### Numbers of a fixed width -/
theorem wrapU8 (n : Int) : IntKind.u8.wrap n = n % 256 := by simp [IntKind.wrap, IntKind.bits, IntKind.signed]
theorem wrapU16 (n : Int) : IntKind.u16.wrap n = n % 65536 := by simp [IntKind.wrap, IntKind.bits, IntKind.signed]
theorem wrapU32 (n : Int) : IntKind.u32.wrap n = n % 4294967296 := by simp [IntKind.wrap, IntKind.bits, IntKind.signed]
theorem wrapU64 (n : Int) : IntKind.u64.wrap n = n % 18446744073709551616 := by simp [IntKind.wrap, IntKind.bits, IntKind.signed]
abbrev u8v (x : UInt8) : Value := .int .u8 (x.toNat : Int)
instance {x : UInt8} : CellsOf (u8v x) [u8v x] := ⟨rfl⟩
def shl8 (x : UInt8) (s : Nat) : UInt8 := UInt8.ofNat (x.toNat * 2 ^ s)
def shr8 (x : UInt8) (s : Nat) : UInt8 := UInt8.ofNat (x.toNat / 2 ^ s)
theorem backU8 (x : UInt8) : IntKind.u8.wrap (x.toNat : Int) = x.toNat := by have := x.toNat_lt; rw [wrapU8]; omega
section
variable {P : Program} {ty : TypeId} {F : Fr} {M : Mem} {L : Own} {x y : Operand} {t t' : TypeId} {a b : UInt8}
theorem y_add8 (hx : ev F x = some (u8v a)) (hy : ev F y = some (u8v b)) : Yld P (.binOp .add t x y t') ty F M L (u8v (a + b)) := by
  have h := y_add (P := P) (M := M) (L := L) (t := t) (t' := t') (ty := ty) hx hy
  have e : IntKind.u8.wrap ((a.toNat : Int) + (b.toNat : Int)) = ((a + b).toNat : Int) := by
    rw [wrapU8, UInt8.toNat_add]; omega
  rwa [e] at h
theorem y_sub8 (hx : ev F x = some (u8v a)) (hy : ev F y = some (u8v b)) : Yld P (.binOp .sub t x y t') ty F M L (u8v (a - b)) := by
  have h := y_sub (P := P) (M := M) (L := L) (t := t) (t' := t') (ty := ty) hx hy
  have e : IntKind.u8.wrap ((a.toNat : Int) - (b.toNat : Int)) = ((a - b).toNat : Int) := by
    have h1 := a.toNat_lt; have h2 := b.toNat_lt; rw [wrapU8, UInt8.toNat_sub]; omega
  rwa [e] at h
theorem y_mul8 (hx : ev F x = some (u8v a)) (hy : ev F y = some (u8v b)) : Yld P (.binOp .mul t x y t') ty F M L (u8v (a * b)) := by
  have h := y_mul (P := P) (M := M) (L := L) (t := t) (t' := t') (ty := ty) hx hy
  have e : IntKind.u8.wrap ((a.toNat : Int) * (b.toNat : Int)) = ((a * b).toNat : Int) := by
    rw [wrapU8, UInt8.toNat_mul]; simp
  rwa [e] at h
theorem y_and8 (hx : ev F x = some (u8v a)) (hy : ev F y = some (u8v b)) : Yld P (.binOp .and t x y t') ty F M L (u8v (a &&& b)) := by
  have h := y_and (P := P) (M := M) (L := L) (t := t) (t' := t') (ty := ty) hx hy
  have h1 : BitVec.ofInt 8 (a.toNat : Int) = a.toBitVec := by simp
  have h2 : BitVec.ofInt 8 (b.toNat : Int) = b.toBitVec := by simp
  have e : IntKind.u8.wrap ((BitVec.ofInt IntKind.u8.bits (a.toNat : Int) &&& BitVec.ofInt IntKind.u8.bits (b.toNat : Int)).toNat : Int) = ((a &&& b).toNat : Int) := by
    show IntKind.u8.wrap ((BitVec.ofInt 8 (a.toNat : Int) &&& BitVec.ofInt 8 (b.toNat : Int)).toNat : Int) = _
    rw [h1, h2]; exact backU8 (a &&& b)
  rwa [e] at h
theorem y_or8 (hx : ev F x = some (u8v a)) (hy : ev F y = some (u8v b)) : Yld P (.binOp .or t x y t') ty F M L (u8v (a ||| b)) := by
  have h := y_or (P := P) (M := M) (L := L) (t := t) (t' := t') (ty := ty) hx hy
  have h1 : BitVec.ofInt 8 (a.toNat : Int) = a.toBitVec := by simp
  have h2 : BitVec.ofInt 8 (b.toNat : Int) = b.toBitVec := by simp
  have e : IntKind.u8.wrap ((BitVec.ofInt IntKind.u8.bits (a.toNat : Int) ||| BitVec.ofInt IntKind.u8.bits (b.toNat : Int)).toNat : Int) = ((a ||| b).toNat : Int) := by
    show IntKind.u8.wrap ((BitVec.ofInt 8 (a.toNat : Int) ||| BitVec.ofInt 8 (b.toNat : Int)).toNat : Int) = _
    rw [h1, h2]; exact backU8 (a ||| b)
  rwa [e] at h
theorem y_xor8 (hx : ev F x = some (u8v a)) (hy : ev F y = some (u8v b)) : Yld P (.binOp .xor t x y t') ty F M L (u8v (a ^^^ b)) := by
  have h := y_xor (P := P) (M := M) (L := L) (t := t) (t' := t') (ty := ty) hx hy
  have h1 : BitVec.ofInt 8 (a.toNat : Int) = a.toBitVec := by simp
  have h2 : BitVec.ofInt 8 (b.toNat : Int) = b.toBitVec := by simp
  have e : IntKind.u8.wrap ((BitVec.ofInt IntKind.u8.bits (a.toNat : Int) ^^^ BitVec.ofInt IntKind.u8.bits (b.toNat : Int)).toNat : Int) = ((a ^^^ b).toNat : Int) := by
    show IntKind.u8.wrap ((BitVec.ofInt 8 (a.toNat : Int) ^^^ BitVec.ofInt 8 (b.toNat : Int)).toNat : Int) = _
    rw [h1, h2]; exact backU8 (a ^^^ b)
  rwa [e] at h
theorem y_shl8 {k : IntKind} {s : Nat} (hx : ev F x = some (u8v a)) (hy : ev F y = some (.int k (s : Int))) : Yld P (.binOp .shl t x y t') ty F M L (u8v (shl8 a s)) := by
  have h := y_shl (P := P) (M := M) (L := L) (t := t) (t' := t') (ty := ty) hx hy (by omega)
  have e : IntKind.u8.wrap ((a.toNat : Int) * 2 ^ (min (s : Int).toNat IntKind.u8.bits)) = ((shl8 a s).toNat : Int) := by
    rw [wrapU8, shl8, UInt8.toNat_ofNat']
    have hb : IntKind.u8.bits = 8 := rfl
    rw [hb, Int.toNat_natCast]
    rcases Nat.lt_or_ge s 8 with hs | hs
    · rw [Nat.min_eq_left (by omega)]; simp
    · rw [Nat.min_eq_right hs]
      obtain ⟨d, rfl⟩ : ∃ d, s = 8 + d := ⟨s - 8, by omega⟩
      rw [Nat.pow_add]
      have e1 : a.toNat * (2 ^ 8 * 2 ^ d) = 2 ^ 8 * (a.toNat * 2 ^ d) := by rw [Nat.mul_left_comm]
      rw [e1, Nat.mul_mod_right]
      omega
  rwa [e] at h
theorem y_shr8 {k : IntKind} {s : Nat} (hx : ev F x = some (u8v a)) (hy : ev F y = some (.int k (s : Int))) : Yld P (.binOp .shr t x y t') ty F M L (u8v (shr8 a s)) := by
  have h := y_shr (P := P) (M := M) (L := L) (t := t) (t' := t') (ty := ty) hx hy (by omega)
  have e : Int.fdiv (a.toNat : Int) (2 ^ (min (s : Int).toNat IntKind.u8.bits)) = ((shr8 a s).toNat : Int) := by
    have hb : IntKind.u8.bits = 8 := rfl
    have ha := a.toNat_lt
    rw [shr8, UInt8.toNat_ofNat', hb, Int.toNat_natCast, Nat.mod_eq_of_lt (Nat.lt_of_le_of_lt (Nat.div_le_self _ _) (by omega))]
    rw [Int.fdiv_eq_ediv_of_nonneg _ (by have := Int.pow_nonneg (n := 2) (m := min s 8) (by omega); omega)]
    rcases Nat.lt_or_ge s 8 with hs | hs
    · rw [Nat.min_eq_left (by omega)]; simp
    · rw [Nat.min_eq_right hs]
      have h1 : a.toNat / 2 ^ s = 0 := Nat.div_eq_of_lt (Nat.lt_of_lt_of_le ha (Nat.pow_le_pow_right (by omega) hs))
      rw [h1]
      omega
  rwa [e] at h
theorem y_com8 (hx : ev F x = some (u8v a)) : Yld P (.unOp .xor t x) ty F M L (u8v (~~~a)) := by
  have h := y_com (P := P) (M := M) (L := L) (t := t) (ty := ty) hx
  have e : IntKind.u8.wrap ((BitVec.ofInt IntKind.u8.bits (if IntKind.u8.signed then -1 else IntKind.u8.max) ^^^ BitVec.ofInt IntKind.u8.bits (a.toNat : Int)).toNat : Int) = ((~~~a).toNat : Int) := by
    have h1 : BitVec.ofInt 8 (a.toNat : Int) = a.toBitVec := by simp
    have e1 : BitVec.ofInt 8 (if IntKind.u8.signed then -1 else IntKind.u8.max) = BitVec.allOnes 8 := by rfl
    show IntKind.u8.wrap ((BitVec.ofInt 8 (if IntKind.u8.signed then -1 else IntKind.u8.max) ^^^ BitVec.ofInt 8 (a.toNat : Int)).toNat : Int) = _
    rw [e1, h1]
    have e2 : (BitVec.allOnes 8 ^^^ a.toBitVec).toNat = (~~~a).toNat := by rw [BitVec.allOnes_xor]; rfl
    exact e2 ▸ backU8 (~~~a)
  rwa [e] at h
theorem y_of8 {z z' : Value} {s s' b0 b' : Nat} {d0 : TypeDesc} {k : IntKind} {v : Int} [ti : TI P t d0 z s b0] [ti' : TI P t' (.int .u8) z' s' b'] (hx : ev F x = some (.int k v)) : Yld P (.convert t t' x) ty F M L (u8v (UInt8.ofInt v)) := by
  have e : IntKind.u8.wrap v = ((UInt8.ofInt v).toNat : Int) := by rw [wrapU8]; show _ = ((UInt8.ofNat (v % 256).toNat).toNat : Int); rw [UInt8.toNat_ofNat']; have := Int.emod_nonneg v (show (256 : Int) ≠ 0 by omega); have := Int.emod_lt_of_pos v (show (0 : Int) < 256 by omega); omega
  exact y_convE hx e
end
abbrev u32v (x : UInt32) : Value := .int .u32 (x.toNat : Int)
instance {x : UInt32} : CellsOf (u32v x) [u32v x] := ⟨rfl⟩
def shl32 (x : UInt32) (s : Nat) : UInt32 := UInt32.ofNat (x.toNat * 2 ^ s)
def shr32 (x : UInt32) (s : Nat) : UInt32 := UInt32.ofNat (x.toNat / 2 ^ s)
theorem backU32 (x : UInt32) : IntKind.u32.wrap (x.toNat : Int) = x.toNat := by have := x.toNat_lt; rw [wrapU32]; omega
section
variable {P : Program} {ty : TypeId} {F : Fr} {M : Mem} {L : Own} {x y : Operand} {t t' : TypeId} {a b : UInt32}
theorem y_add32 (hx : ev F x = some (u32v a)) (hy : ev F y = some (u32v b)) : Yld P (.binOp .add t x y t') ty F M L (u32v (a + b)) := by
  have h := y_add (P := P) (M := M) (L := L) (t := t) (t' := t') (ty := ty) hx hy
  have e : IntKind.u32.wrap ((a.toNat : Int) + (b.toNat : Int)) = ((a + b).toNat : Int) := by
    rw [wrapU32, UInt32.toNat_add]; omega
  rwa [e] at h
theorem y_sub32 (hx : ev F x = some (u32v a)) (hy : ev F y = some (u32v b)) : Yld P (.binOp .sub t x y t') ty F M L (u32v (a - b)) := by
  have h := y_sub (P := P) (M := M) (L := L) (t := t) (t' := t') (ty := ty) hx hy
  have e : IntKind.u32.wrap ((a.toNat : Int) - (b.toNat : Int)) = ((a - b).toNat : Int) := by
    have h1 := a.toNat_lt; have h2 := b.toNat_lt; rw [wrapU32, UInt32.toNat_sub]; omega
  rwa [e] at h
theorem y_mul32 (hx : ev F x = some (u32v a)) (hy : ev F y = some (u32v b)) : Yld P (.binOp .mul t x y t') ty F M L (u32v (a * b)) := by
  have h := y_mul (P := P) (M := M) (L := L) (t := t) (t' := t') (ty := ty) hx hy
  have e : IntKind.u32.wrap ((a.toNat : Int) * (b.toNat : Int)) = ((a * b).toNat : Int) := by
    rw [wrapU32, UInt32.toNat_mul]; simp
  rwa [e] at h
theorem y_and32 (hx : ev F x = some (u32v a)) (hy : ev F y = some (u32v b)) : Yld P (.binOp .and t x y t') ty F M L (u32v (a &&& b)) := by
  have h := y_and (P := P) (M := M) (L := L) (t := t) (t' := t') (ty := ty) hx hy
  have h1 : BitVec.ofInt 32 (a.toNat : Int) = a.toBitVec := by simp
  have h2 : BitVec.ofInt 32 (b.toNat : Int) = b.toBitVec := by simp
  have e : IntKind.u32.wrap ((BitVec.ofInt IntKind.u32.bits (a.toNat : Int) &&& BitVec.ofInt IntKind.u32.bits (b.toNat : Int)).toNat : Int) = ((a &&& b).toNat : Int) := by
    show IntKind.u32.wrap ((BitVec.ofInt 32 (a.toNat : Int) &&& BitVec.ofInt 32 (b.toNat : Int)).toNat : Int) = _
    rw [h1, h2]; exact backU32 (a &&& b)
  rwa [e] at h
theorem y_or32 (hx : ev F x = some (u32v a)) (hy : ev F y = some (u32v b)) : Yld P (.binOp .or t x y t') ty F M L (u32v (a ||| b)) := by
  have h := y_or (P := P) (M := M) (L := L) (t := t) (t' := t') (ty := ty) hx hy
  have h1 : BitVec.ofInt 32 (a.toNat : Int) = a.toBitVec := by simp
  have h2 : BitVec.ofInt 32 (b.toNat : Int) = b.toBitVec := by simp
  have e : IntKind.u32.wrap ((BitVec.ofInt IntKind.u32.bits (a.toNat : Int) ||| BitVec.ofInt IntKind.u32.bits (b.toNat : Int)).toNat : Int) = ((a ||| b).toNat : Int) := by
    show IntKind.u32.wrap ((BitVec.ofInt 32 (a.toNat : Int) ||| BitVec.ofInt 32 (b.toNat : Int)).toNat : Int) = _
    rw [h1, h2]; exact backU32 (a ||| b)
  rwa [e] at h
theorem y_xor32 (hx : ev F x = some (u32v a)) (hy : ev F y = some (u32v b)) : Yld P (.binOp .xor t x y t') ty F M L (u32v (a ^^^ b)) := by
  have h := y_xor (P := P) (M := M) (L := L) (t := t) (t' := t') (ty := ty) hx hy
  have h1 : BitVec.ofInt 32 (a.toNat : Int) = a.toBitVec := by simp
  have h2 : BitVec.ofInt 32 (b.toNat : Int) = b.toBitVec := by simp
  have e : IntKind.u32.wrap ((BitVec.ofInt IntKind.u32.bits (a.toNat : Int) ^^^ BitVec.ofInt IntKind.u32.bits (b.toNat : Int)).toNat : Int) = ((a ^^^ b).toNat : Int) := by
    show IntKind.u32.wrap ((BitVec.ofInt 32 (a.toNat : Int) ^^^ BitVec.ofInt 32 (b.toNat : Int)).toNat : Int) = _
    rw [h1, h2]; exact backU32 (a ^^^ b)
  rwa [e] at h
theorem y_shl32 {k : IntKind} {s : Nat} (hx : ev F x = some (u32v a)) (hy : ev F y = some (.int k (s : Int))) : Yld P (.binOp .shl t x y t') ty F M L (u32v (shl32 a s)) := by
  have h := y_shl (P := P) (M := M) (L := L) (t := t) (t' := t') (ty := ty) hx hy (by omega)
  have e : IntKind.u32.wrap ((a.toNat : Int) * 2 ^ (min (s : Int).toNat IntKind.u32.bits)) = ((shl32 a s).toNat : Int) := by
    rw [wrapU32, shl32, UInt32.toNat_ofNat']
    have hb : IntKind.u32.bits = 32 := rfl
    rw [hb, Int.toNat_natCast]
    rcases Nat.lt_or_ge s 32 with hs | hs
    · rw [Nat.min_eq_left (by omega)]; simp
    · rw [Nat.min_eq_right hs]
      obtain ⟨d, rfl⟩ : ∃ d, s = 32 + d := ⟨s - 32, by omega⟩
      rw [Nat.pow_add]
      have e1 : a.toNat * (2 ^ 32 * 2 ^ d) = 2 ^ 32 * (a.toNat * 2 ^ d) := by rw [Nat.mul_left_comm]
      rw [e1, Nat.mul_mod_right]
      omega
  rwa [e] at h
theorem y_shr32 {k : IntKind} {s : Nat} (hx : ev F x = some (u32v a)) (hy : ev F y = some (.int k (s : Int))) : Yld P (.binOp .shr t x y t') ty F M L (u32v (shr32 a s)) := by
  have h := y_shr (P := P) (M := M) (L := L) (t := t) (t' := t') (ty := ty) hx hy (by omega)
  have e : Int.fdiv (a.toNat : Int) (2 ^ (min (s : Int).toNat IntKind.u32.bits)) = ((shr32 a s).toNat : Int) := by
    have hb : IntKind.u32.bits = 32 := rfl
    have ha := a.toNat_lt
    rw [shr32, UInt32.toNat_ofNat', hb, Int.toNat_natCast, Nat.mod_eq_of_lt (Nat.lt_of_le_of_lt (Nat.div_le_self _ _) (by omega))]
    rw [Int.fdiv_eq_ediv_of_nonneg _ (by have := Int.pow_nonneg (n := 2) (m := min s 32) (by omega); omega)]
    rcases Nat.lt_or_ge s 32 with hs | hs
    · rw [Nat.min_eq_left (by omega)]; simp
    · rw [Nat.min_eq_right hs]
      have h1 : a.toNat / 2 ^ s = 0 := Nat.div_eq_of_lt (Nat.lt_of_lt_of_le ha (Nat.pow_le_pow_right (by omega) hs))
      rw [h1]
      omega
  rwa [e] at h
theorem y_com32 (hx : ev F x = some (u32v a)) : Yld P (.unOp .xor t x) ty F M L (u32v (~~~a)) := by
  have h := y_com (P := P) (M := M) (L := L) (t := t) (ty := ty) hx
  have e : IntKind.u32.wrap ((BitVec.ofInt IntKind.u32.bits (if IntKind.u32.signed then -1 else IntKind.u32.max) ^^^ BitVec.ofInt IntKind.u32.bits (a.toNat : Int)).toNat : Int) = ((~~~a).toNat : Int) := by
    have h1 : BitVec.ofInt 32 (a.toNat : Int) = a.toBitVec := by simp
    have e1 : BitVec.ofInt 32 (if IntKind.u32.signed then -1 else IntKind.u32.max) = BitVec.allOnes 32 := by rfl
    show IntKind.u32.wrap ((BitVec.ofInt 32 (if IntKind.u32.signed then -1 else IntKind.u32.max) ^^^ BitVec.ofInt 32 (a.toNat : Int)).toNat : Int) = _
    rw [e1, h1]
    have e2 : (BitVec.allOnes 32 ^^^ a.toBitVec).toNat = (~~~a).toNat := by rw [BitVec.allOnes_xor]; rfl
    exact e2 ▸ backU32 (~~~a)
  rwa [e] at h
theorem y_of32 {z z' : Value} {s s' b0 b' : Nat} {d0 : TypeDesc} {k : IntKind} {v : Int} [ti : TI P t d0 z s b0] [ti' : TI P t' (.int .u32) z' s' b'] (hx : ev F x = some (.int k v)) : Yld P (.convert t t' x) ty F M L (u32v (UInt32.ofInt v)) := by
  have e : IntKind.u32.wrap v = ((UInt32.ofInt v).toNat : Int) := by rw [wrapU32]; show _ = ((UInt32.ofNat (v % 4294967296).toNat).toNat : Int); rw [UInt32.toNat_ofNat']; have := Int.emod_nonneg v (show (4294967296 : Int) ≠ 0 by omega); have := Int.emod_lt_of_pos v (show (0 : Int) < 4294967296 by omega); omega
  exact y_convE hx e
end
abbrev u64v (x : UInt64) : Value := .int .u64 (x.toNat : Int)
instance {x : UInt64} : CellsOf (u64v x) [u64v x] := ⟨rfl⟩
def shl64 (x : UInt64) (s : Nat) : UInt64 := UInt64.ofNat (x.toNat * 2 ^ s)
def shr64 (x : UInt64) (s : Nat) : UInt64 := UInt64.ofNat (x.toNat / 2 ^ s)
theorem backU64 (x : UInt64) : IntKind.u64.wrap (x.toNat : Int) = x.toNat := by have := x.toNat_lt; rw [wrapU64]; omega
section
variable {P : Program} {ty : TypeId} {F : Fr} {M : Mem} {L : Own} {x y : Operand} {t t' : TypeId} {a b : UInt64}
theorem y_add64 (hx : ev F x = some (u64v a)) (hy : ev F y = some (u64v b)) : Yld P (.binOp .add t x y t') ty F M L (u64v (a + b)) := by
  have h := y_add (P := P) (M := M) (L := L) (t := t) (t' := t') (ty := ty) hx hy
  have e : IntKind.u64.wrap ((a.toNat : Int) + (b.toNat : Int)) = ((a + b).toNat : Int) := by
    rw [wrapU64, UInt64.toNat_add]; omega
  rwa [e] at h
theorem y_sub64 (hx : ev F x = some (u64v a)) (hy : ev F y = some (u64v b)) : Yld P (.binOp .sub t x y t') ty F M L (u64v (a - b)) := by
  have h := y_sub (P := P) (M := M) (L := L) (t := t) (t' := t') (ty := ty) hx hy
  have e : IntKind.u64.wrap ((a.toNat : Int) - (b.toNat : Int)) = ((a - b).toNat : Int) := by
    have h1 := a.toNat_lt; have h2 := b.toNat_lt; rw [wrapU64, UInt64.toNat_sub]; omega
  rwa [e] at h
theorem y_mul64 (hx : ev F x = some (u64v a)) (hy : ev F y = some (u64v b)) : Yld P (.binOp .mul t x y t') ty F M L (u64v (a * b)) := by
  have h := y_mul (P := P) (M := M) (L := L) (t := t) (t' := t') (ty := ty) hx hy
  have e : IntKind.u64.wrap ((a.toNat : Int) * (b.toNat : Int)) = ((a * b).toNat : Int) := by
    rw [wrapU64, UInt64.toNat_mul]; simp
  rwa [e] at h
theorem y_and64 (hx : ev F x = some (u64v a)) (hy : ev F y = some (u64v b)) : Yld P (.binOp .and t x y t') ty F M L (u64v (a &&& b)) := by
  have h := y_and (P := P) (M := M) (L := L) (t := t) (t' := t') (ty := ty) hx hy
  have h1 : BitVec.ofInt 64 (a.toNat : Int) = a.toBitVec := by simp
  have h2 : BitVec.ofInt 64 (b.toNat : Int) = b.toBitVec := by simp
  have e : IntKind.u64.wrap ((BitVec.ofInt IntKind.u64.bits (a.toNat : Int) &&& BitVec.ofInt IntKind.u64.bits (b.toNat : Int)).toNat : Int) = ((a &&& b).toNat : Int) := by
    show IntKind.u64.wrap ((BitVec.ofInt 64 (a.toNat : Int) &&& BitVec.ofInt 64 (b.toNat : Int)).toNat : Int) = _
    rw [h1, h2]; exact backU64 (a &&& b)
  rwa [e] at h
theorem y_or64 (hx : ev F x = some (u64v a)) (hy : ev F y = some (u64v b)) : Yld P (.binOp .or t x y t') ty F M L (u64v (a ||| b)) := by
  have h := y_or (P := P) (M := M) (L := L) (t := t) (t' := t') (ty := ty) hx hy
  have h1 : BitVec.ofInt 64 (a.toNat : Int) = a.toBitVec := by simp
  have h2 : BitVec.ofInt 64 (b.toNat : Int) = b.toBitVec := by simp
  have e : IntKind.u64.wrap ((BitVec.ofInt IntKind.u64.bits (a.toNat : Int) ||| BitVec.ofInt IntKind.u64.bits (b.toNat : Int)).toNat : Int) = ((a ||| b).toNat : Int) := by
    show IntKind.u64.wrap ((BitVec.ofInt 64 (a.toNat : Int) ||| BitVec.ofInt 64 (b.toNat : Int)).toNat : Int) = _
    rw [h1, h2]; exact backU64 (a ||| b)
  rwa [e] at h
theorem y_xor64 (hx : ev F x = some (u64v a)) (hy : ev F y = some (u64v b)) : Yld P (.binOp .xor t x y t') ty F M L (u64v (a ^^^ b)) := by
  have h := y_xor (P := P) (M := M) (L := L) (t := t) (t' := t') (ty := ty) hx hy
  have h1 : BitVec.ofInt 64 (a.toNat : Int) = a.toBitVec := by simp
  have h2 : BitVec.ofInt 64 (b.toNat : Int) = b.toBitVec := by simp
  have e : IntKind.u64.wrap ((BitVec.ofInt IntKind.u64.bits (a.toNat : Int) ^^^ BitVec.ofInt IntKind.u64.bits (b.toNat : Int)).toNat : Int) = ((a ^^^ b).toNat : Int) := by
    show IntKind.u64.wrap ((BitVec.ofInt 64 (a.toNat : Int) ^^^ BitVec.ofInt 64 (b.toNat : Int)).toNat : Int) = _
    rw [h1, h2]; exact backU64 (a ^^^ b)
  rwa [e] at h
theorem y_shl64 {k : IntKind} {s : Nat} (hx : ev F x = some (u64v a)) (hy : ev F y = some (.int k (s : Int))) : Yld P (.binOp .shl t x y t') ty F M L (u64v (shl64 a s)) := by
  have h := y_shl (P := P) (M := M) (L := L) (t := t) (t' := t') (ty := ty) hx hy (by omega)
  have e : IntKind.u64.wrap ((a.toNat : Int) * 2 ^ (min (s : Int).toNat IntKind.u64.bits)) = ((shl64 a s).toNat : Int) := by
    rw [wrapU64, shl64, UInt64.toNat_ofNat']
    have hb : IntKind.u64.bits = 64 := rfl
    rw [hb, Int.toNat_natCast]
    rcases Nat.lt_or_ge s 64 with hs | hs
    · rw [Nat.min_eq_left (by omega)]; simp
    · rw [Nat.min_eq_right hs]
      obtain ⟨d, rfl⟩ : ∃ d, s = 64 + d := ⟨s - 64, by omega⟩
      rw [Nat.pow_add]
      have e1 : a.toNat * (2 ^ 64 * 2 ^ d) = 2 ^ 64 * (a.toNat * 2 ^ d) := by rw [Nat.mul_left_comm]
      rw [e1, Nat.mul_mod_right]
      omega
  rwa [e] at h
theorem y_shr64 {k : IntKind} {s : Nat} (hx : ev F x = some (u64v a)) (hy : ev F y = some (.int k (s : Int))) : Yld P (.binOp .shr t x y t') ty F M L (u64v (shr64 a s)) := by
  have h := y_shr (P := P) (M := M) (L := L) (t := t) (t' := t') (ty := ty) hx hy (by omega)
  have e : Int.fdiv (a.toNat : Int) (2 ^ (min (s : Int).toNat IntKind.u64.bits)) = ((shr64 a s).toNat : Int) := by
    have hb : IntKind.u64.bits = 64 := rfl
    have ha := a.toNat_lt
    rw [shr64, UInt64.toNat_ofNat', hb, Int.toNat_natCast, Nat.mod_eq_of_lt (Nat.lt_of_le_of_lt (Nat.div_le_self _ _) (by omega))]
    rw [Int.fdiv_eq_ediv_of_nonneg _ (by have := Int.pow_nonneg (n := 2) (m := min s 64) (by omega); omega)]
    rcases Nat.lt_or_ge s 64 with hs | hs
    · rw [Nat.min_eq_left (by omega)]; simp
    · rw [Nat.min_eq_right hs]
      have h1 : a.toNat / 2 ^ s = 0 := Nat.div_eq_of_lt (Nat.lt_of_lt_of_le ha (Nat.pow_le_pow_right (by omega) hs))
      rw [h1]
      omega
  rwa [e] at h
theorem y_com64 (hx : ev F x = some (u64v a)) : Yld P (.unOp .xor t x) ty F M L (u64v (~~~a)) := by
  have h := y_com (P := P) (M := M) (L := L) (t := t) (ty := ty) hx
  have e : IntKind.u64.wrap ((BitVec.ofInt IntKind.u64.bits (if IntKind.u64.signed then -1 else IntKind.u64.max) ^^^ BitVec.ofInt IntKind.u64.bits (a.toNat : Int)).toNat : Int) = ((~~~a).toNat : Int) := by
    have h1 : BitVec.ofInt 64 (a.toNat : Int) = a.toBitVec := by simp
    have e1 : BitVec.ofInt 64 (if IntKind.u64.signed then -1 else IntKind.u64.max) = BitVec.allOnes 64 := by rfl
    show IntKind.u64.wrap ((BitVec.ofInt 64 (if IntKind.u64.signed then -1 else IntKind.u64.max) ^^^ BitVec.ofInt 64 (a.toNat : Int)).toNat : Int) = _
    rw [e1, h1]
    have e2 : (BitVec.allOnes 64 ^^^ a.toBitVec).toNat = (~~~a).toNat := by rw [BitVec.allOnes_xor]; rfl
    exact e2 ▸ backU64 (~~~a)
  rwa [e] at h
theorem y_of64 {z z' : Value} {s s' b0 b' : Nat} {d0 : TypeDesc} {k : IntKind} {v : Int} [ti : TI P t d0 z s b0] [ti' : TI P t' (.int .u64) z' s' b'] (hx : ev F x = some (.int k v)) : Yld P (.convert t t' x) ty F M L (u64v (UInt64.ofInt v)) := by
  have e : IntKind.u64.wrap v = ((UInt64.ofInt v).toNat : Int) := by rw [wrapU64]; show _ = ((UInt64.ofNat (v % 18446744073709551616).toNat).toNat : Int); rw [UInt64.toNat_ofNat']; have := Int.emod_nonneg v (show (18446744073709551616 : Int) ≠ 0 by omega); have := Int.emod_lt_of_pos v (show (0 : Int) < 18446744073709551616 by omega); omega
  exact y_convE hx e
end
theorem y_u8u32 {P : Program} {ty : TypeId} {F : Fr} {M : Mem} {L : Own} {x : Operand} {t t' : TypeId} {z z' : Value} {s s' b0 b' : Nat} {d0 : TypeDesc} {c : UInt8} [ti : TI P t d0 z s b0] [ti' : TI P t' (.int .u32) z' s' b'] (hx : ev F x = some (u8v c)) : Yld P (.convert t t' x) ty F M L (u32v c.toUInt32) := y_convE hx (by
  have := c.toNat_lt; rw [wrapU32, UInt8.toNat_toUInt32]; omega)
theorem y_u8u64 {P : Program} {ty : TypeId} {F : Fr} {M : Mem} {L : Own} {x : Operand} {t t' : TypeId} {z z' : Value} {s s' b0 b' : Nat} {d0 : TypeDesc} {c : UInt8} [ti : TI P t d0 z s b0] [ti' : TI P t' (.int .u64) z' s' b'] (hx : ev F x = some (u8v c)) : Yld P (.convert t t' x) ty F M L (u64v c.toUInt64) := y_convE hx (by
  have := c.toNat_lt; rw [wrapU64, UInt8.toNat_toUInt64]; omega)
theorem y_u32u8 {P : Program} {ty : TypeId} {F : Fr} {M : Mem} {L : Own} {x : Operand} {t t' : TypeId} {z z' : Value} {s s' b0 b' : Nat} {d0 : TypeDesc} {c : UInt32} [ti : TI P t d0 z s b0] [ti' : TI P t' (.int .u8) z' s' b'] (hx : ev F x = some (u32v c)) : Yld P (.convert t t' x) ty F M L (u8v c.toUInt8) := y_convE hx (by
  rw [wrapU8, UInt32.toNat_toUInt8]; omega)
theorem y_u32u64 {P : Program} {ty : TypeId} {F : Fr} {M : Mem} {L : Own} {x : Operand} {t t' : TypeId} {z z' : Value} {s s' b0 b' : Nat} {d0 : TypeDesc} {c : UInt32} [ti : TI P t d0 z s b0] [ti' : TI P t' (.int .u64) z' s' b'] (hx : ev F x = some (u32v c)) : Yld P (.convert t t' x) ty F M L (u64v c.toUInt64) := y_convE hx (by
  have := c.toNat_lt; rw [wrapU64, UInt32.toNat_toUInt64]; omega)
theorem y_u64u8 {P : Program} {ty : TypeId} {F : Fr} {M : Mem} {L : Own} {x : Operand} {t t' : TypeId} {z z' : Value} {s s' b0 b' : Nat} {d0 : TypeDesc} {c : UInt64} [ti : TI P t d0 z s b0] [ti' : TI P t' (.int .u8) z' s' b'] (hx : ev F x = some (u64v c)) : Yld P (.convert t t' x) ty F M L (u8v c.toUInt8) := y_convE hx (by
  rw [wrapU8, UInt64.toNat_toUInt8]; omega)
theorem y_u64u32 {P : Program} {ty : TypeId} {F : Fr} {M : Mem} {L : Own} {x : Operand} {t t' : TypeId} {z z' : Value} {s s' b0 b' : Nat} {d0 : TypeDesc} {c : UInt64} [ti : TI P t d0 z s b0] [ti' : TI P t' (.int .u32) z' s' b'] (hx : ev F x = some (u64v c)) : Yld P (.convert t t' x) ty F M L (u32v c.toUInt32) := y_convE hx (by
  rw [wrapU32, UInt64.toNat_toUInt32]; omega)
/-! Numbers of a fixed width, without overflow. -/
section
variable {P : Program} {ty : TypeId} {F : Fr} {M : Mem} {L : Own} {x y : Operand} {t t' : TypeId} {a b : Int}
theorem y_addN64 (hx : ev F x = some (.int .u64 a)) (hy : ev F y = some (.int .u64 b)) (h : 0 ≤ a + b ∧ a + b ≤ 18446744073709551615) : Yld P (.binOp .add t x y t') ty F M L (.int .u64 (a + b)) := by
  have h1 := y_add (P := P) (M := M) (L := L) (t := t) (t' := t') (ty := ty) hx hy
  have e : IntKind.u64.wrap (a + b) = a + b := by rw [wrapU64]; generalize a + b = q at h; omega
  rwa [e] at h1
theorem y_subN64 (hx : ev F x = some (.int .u64 a)) (hy : ev F y = some (.int .u64 b)) (h : 0 ≤ a - b ∧ a - b ≤ 18446744073709551615) : Yld P (.binOp .sub t x y t') ty F M L (.int .u64 (a - b)) := by
  have h1 := y_sub (P := P) (M := M) (L := L) (t := t) (t' := t') (ty := ty) hx hy
  have e : IntKind.u64.wrap (a - b) = a - b := by rw [wrapU64]; generalize a - b = q at h; omega
  rwa [e] at h1
theorem y_mulN64 (hx : ev F x = some (.int .u64 a)) (hy : ev F y = some (.int .u64 b)) (h : 0 ≤ a * b ∧ a * b ≤ 18446744073709551615) : Yld P (.binOp .mul t x y t') ty F M L (.int .u64 (a * b)) := by
  have h1 := y_mul (P := P) (M := M) (L := L) (t := t) (t' := t') (ty := ty) hx hy
  have e : IntKind.u64.wrap (a * b) = a * b := by rw [wrapU64]; generalize a * b = q at h; omega
  rwa [e] at h1
theorem y_quoN64 (hx : ev F x = some (.int .u64 a)) (hy : ev F y = some (.int .u64 b)) (h : 0 ≤ a ∧ 0 < b ∧ a ≤ 18446744073709551615) : Yld P (.binOp .quo t x y t') ty F M L (.int .u64 (a / b)) := by
  have h1 := y_quo (P := P) (M := M) (L := L) (t := t) (t' := t') (ty := ty) hx hy (by omega)
  have h2 : a / b ≤ a := Int.ediv_le_self _ h.1
  have h3 : 0 ≤ a / b := Int.ediv_nonneg h.1 (by omega)
  have e : IntKind.u64.wrap (a / b) = a / b := by rw [wrapU64]; generalize a / b = q at h2 h3; omega
  rwa [Int.tdiv_eq_ediv_of_nonneg h.1, e] at h1
theorem y_convN64 {z z' : Value} {s s' b0 b' : Nat} {d0 : TypeDesc} {k : IntKind} [ti : TI P t d0 z s b0] [ti' : TI P t' (.int .u64) z' s' b'] (hx : ev F x = some (.int k a)) (h : 0 ≤ a ∧ a ≤ 18446744073709551615) : Yld P (.convert t t' x) ty F M L (.int .u64 a) := y_convE hx (by rw [wrapU64]; omega)
theorem y_addN32 (hx : ev F x = some (.int .u32 a)) (hy : ev F y = some (.int .u32 b)) (h : 0 ≤ a + b ∧ a + b ≤ 4294967295) : Yld P (.binOp .add t x y t') ty F M L (.int .u32 (a + b)) := by
  have h1 := y_add (P := P) (M := M) (L := L) (t := t) (t' := t') (ty := ty) hx hy
  have e : IntKind.u32.wrap (a + b) = a + b := by rw [wrapU32]; generalize a + b = q at h; omega
  rwa [e] at h1
theorem y_subN32 (hx : ev F x = some (.int .u32 a)) (hy : ev F y = some (.int .u32 b)) (h : 0 ≤ a - b ∧ a - b ≤ 4294967295) : Yld P (.binOp .sub t x y t') ty F M L (.int .u32 (a - b)) := by
  have h1 := y_sub (P := P) (M := M) (L := L) (t := t) (t' := t') (ty := ty) hx hy
  have e : IntKind.u32.wrap (a - b) = a - b := by rw [wrapU32]; generalize a - b = q at h; omega
  rwa [e] at h1
theorem y_mulN32 (hx : ev F x = some (.int .u32 a)) (hy : ev F y = some (.int .u32 b)) (h : 0 ≤ a * b ∧ a * b ≤ 4294967295) : Yld P (.binOp .mul t x y t') ty F M L (.int .u32 (a * b)) := by
  have h1 := y_mul (P := P) (M := M) (L := L) (t := t) (t' := t') (ty := ty) hx hy
  have e : IntKind.u32.wrap (a * b) = a * b := by rw [wrapU32]; generalize a * b = q at h; omega
  rwa [e] at h1
theorem y_quoN32 (hx : ev F x = some (.int .u32 a)) (hy : ev F y = some (.int .u32 b)) (h : 0 ≤ a ∧ 0 < b ∧ a ≤ 4294967295) : Yld P (.binOp .quo t x y t') ty F M L (.int .u32 (a / b)) := by
  have h1 := y_quo (P := P) (M := M) (L := L) (t := t) (t' := t') (ty := ty) hx hy (by omega)
  have h2 : a / b ≤ a := Int.ediv_le_self _ h.1
  have h3 : 0 ≤ a / b := Int.ediv_nonneg h.1 (by omega)
  have e : IntKind.u32.wrap (a / b) = a / b := by rw [wrapU32]; generalize a / b = q at h2 h3; omega
  rwa [Int.tdiv_eq_ediv_of_nonneg h.1, e] at h1
theorem y_convN32 {z z' : Value} {s s' b0 b' : Nat} {d0 : TypeDesc} {k : IntKind} [ti : TI P t d0 z s b0] [ti' : TI P t' (.int .u32) z' s' b'] (hx : ev F x = some (.int k a)) (h : 0 ≤ a ∧ a ≤ 4294967295) : Yld P (.convert t t' x) ty F M L (.int .u32 a) := y_convE hx (by rw [wrapU32]; omega)
theorem y_addN8 (hx : ev F x = some (.int .u8 a)) (hy : ev F y = some (.int .u8 b)) (h : 0 ≤ a + b ∧ a + b ≤ 255) : Yld P (.binOp .add t x y t') ty F M L (.int .u8 (a + b)) := by
  have h1 := y_add (P := P) (M := M) (L := L) (t := t) (t' := t') (ty := ty) hx hy
  have e : IntKind.u8.wrap (a + b) = a + b := by rw [wrapU8]; generalize a + b = q at h; omega
  rwa [e] at h1
theorem y_subN8 (hx : ev F x = some (.int .u8 a)) (hy : ev F y = some (.int .u8 b)) (h : 0 ≤ a - b ∧ a - b ≤ 255) : Yld P (.binOp .sub t x y t') ty F M L (.int .u8 (a - b)) := by
  have h1 := y_sub (P := P) (M := M) (L := L) (t := t) (t' := t') (ty := ty) hx hy
  have e : IntKind.u8.wrap (a - b) = a - b := by rw [wrapU8]; generalize a - b = q at h; omega
  rwa [e] at h1
theorem y_mulN8 (hx : ev F x = some (.int .u8 a)) (hy : ev F y = some (.int .u8 b)) (h : 0 ≤ a * b ∧ a * b ≤ 255) : Yld P (.binOp .mul t x y t') ty F M L (.int .u8 (a * b)) := by
  have h1 := y_mul (P := P) (M := M) (L := L) (t := t) (t' := t') (ty := ty) hx hy
  have e : IntKind.u8.wrap (a * b) = a * b := by rw [wrapU8]; generalize a * b = q at h; omega
  rwa [e] at h1
theorem y_quoN8 (hx : ev F x = some (.int .u8 a)) (hy : ev F y = some (.int .u8 b)) (h : 0 ≤ a ∧ 0 < b ∧ a ≤ 255) : Yld P (.binOp .quo t x y t') ty F M L (.int .u8 (a / b)) := by
  have h1 := y_quo (P := P) (M := M) (L := L) (t := t) (t' := t') (ty := ty) hx hy (by omega)
  have h2 : a / b ≤ a := Int.ediv_le_self _ h.1
  have h3 : 0 ≤ a / b := Int.ediv_nonneg h.1 (by omega)
  have e : IntKind.u8.wrap (a / b) = a / b := by rw [wrapU8]; generalize a / b = q at h2 h3; omega
  rwa [Int.tdiv_eq_ediv_of_nonneg h.1, e] at h1
theorem y_convN8 {z z' : Value} {s s' b0 b' : Nat} {d0 : TypeDesc} {k : IntKind} [ti : TI P t d0 z s b0] [ti' : TI P t' (.int .u8) z' s' b'] (hx : ev F x = some (.int k a)) (h : 0 ≤ a ∧ a ≤ 255) : Yld P (.convert t t' x) ty F M L (.int .u8 a) := y_convE hx (by rw [wrapU8]; omega)
end
theorem sl0 {b o m s : Nat} : sl (some (⟨b, o, none⟩ : Addr)) 0 m s = some ⟨b, o, none⟩ := by unfold sl; split <;> simp [add_plain]
theorem sl_pos {b o k m s : Nat} (h : k < m) : sl (some (⟨b, o, none⟩ : Addr)) k m s = some ⟨b, o + k * s, none⟩ := by unfold sl; rw [if_neg (by omega)]; simp [add_plain]
end Go.Eng
